/- Texts of Opt, put together by program. -/
import Derived.Test.YtikjbfjnbhaljaaGreatDoorMOpt2
import Derived.Test.YtikjbfjnbhaljaaGreatDoorMOpt3
import Derived.Test.YtikjbfjnbhaljaaGreatDoorMOpt4

section
namespace Go.Proofs.YtikjbfjnbhaljaaGreatDoor.P
open Go.RowKit Go.Proofs.YtikjbfjnbhaljaaGreatDoorW.PrintWords Go.Proofs.YtikjbfjnbhaljaaGreatDoorW.PrintLast Go.Proofs.YtikjbfjnbhaljaaGreatDoorW.PrintMore Go.Proofs.YtikjbfjnbhaljaaGreatDoorM
attribute [local go_sem] max2_int min2_int max_two min_two max_three min_three max_four min_four
set_option linter.unusedVariables false
set_option linter.unusedSimpArgs false
def laws_eqEntry.f (a0_0 : ByteArray) (a0_1 : Int) (a0_2 : ByteArray) (a0_3 : Bool) (a1_0 : ByteArray) (a1_1 : Int) (a1_2 : ByteArray) (a1_3 : Bool) : Option (Bool) := if a0_0.toList = a1_0.toList then (if a0_1 = a1_1 then (if a0_2.toList = a1_2.toList then (if (a0_3 != a1_3) = true then (some false) else (some true)) else (some false)) else (some false)) else (some false)
set_option maxHeartbeats 8000000 in
set_option maxRecDepth 100000 in
theorem laws_eqEntry.calls (a0_0 : ByteArray) (a0_1 : Int) (a0_2 : ByteArray) (a0_3 : Bool) (a1_0 : ByteArray) (a1_1 : Int) (a1_2 : ByteArray) (a1_3 : Bool) (r : Bool) (w : World) (h : laws_eqEntry.f a0_0 a0_1 a0_2 a0_3 a1_0 a1_1 a1_2 a1_3 = some r) :
 Calls Tryz.prog 54 #[.agg #[.string a0_0, .int .i64 a0_1, .string a0_2, .bool a0_3], .agg #[.string a1_0, .int .i64 a1_1, .string a1_2, .bool a1_3]] w fun e w' => e = .returned (.bool r) ∧ Below w.heap.size w w' := by
 have hu57 := Tryz.underlying57
 have HB := Aside0.mk (Below.refl w.heap.size w)
 have H : (if a0_0.toList = a1_0.toList then (if a0_1 = a1_1 then (if a0_2.toList = a1_2.toList then (if (a0_3 != a1_3) = true then (some false) else (some true)) else (some false)) else (some false)) else (some false)) = some r := h
 clear h
 by_cases c3 : a0_0.toList = a1_0.toList
 {
 rw [if_pos c3] at H
 have c3b0 : (a0_0.toList == a1_0.toList) = true := beq_iff_eq.mpr c3
 have c3b1 : (a0_0.toList != a1_0.toList) = false := bne_eq_false_iff_eq.mpr c3
 clear c3
 by_cases c4 : a0_1 = a1_1
 {
 rw [if_pos c4] at H
 have c4b0 : (a0_1 == a1_1) = true := beq_iff_eq.mpr c4
 have c4b1 : (a0_1 != a1_1) = false := bne_eq_false_iff_eq.mpr c4
 clear c4
 by_cases c5 : a0_2.toList = a1_2.toList
 {
 rw [if_pos c5] at H
 have c5b0 : (a0_2.toList == a1_2.toList) = true := beq_iff_eq.mpr c5
 have c5b1 : (a0_2.toList != a1_2.toList) = false := bne_eq_false_iff_eq.mpr c5
 clear c5
 by_cases c6 : (a0_3 != a1_3) = true
 {
 rw [if_pos c6] at H
 have c6b0 : (a0_3 != a1_3) = true := c6
 (try (have c6b1 : decide (a0_3 = a1_3) = false := by simpa using c6))
 (try (have c6b2 : (a0_3 == a1_3) = false := by simpa using c6))
 (try (have c6b3 : ¬ (a0_3 = a1_3) := by simpa using c6))
 clear c6
 obtain rfl := Option.some.inj H
 go_enter Tryz.func54, Tryz.ntmps54
 go_wp2_with (first | ((with_reducible refine gate_dst (N := 2) rfl ?_); refine bE_ 2 #[.string a0_0, .int .i64 a0_1, .string a0_2, .bool a0_3] 57 ?_; intro gb477 hg w7 hbox hb; have BK477 := Aside0.mk (hbox); have GW477 := Aside0.mk (ge_ hg (bw_ HB)); have GE477 := Aside0.mk (ge_ hg (bw_ HB)); replace HB := Aside0.mk (below_step (bw_ HB) hb); clear hb hbox hg) | ((with_reducible refine gate_dst (N := 3) rfl ?_); refine bE_ 3 #[.string a1_0, .int .i64 a1_1, .string a1_2, .bool a1_3] 57 ?_; intro gb478 hg w8 hbox hb; have BK478 := Aside0.mk (hbox); have GW478 := Aside0.mk (ge_ hg (bw1_ HB GE477)); have GE478 := Aside0.mk (ge_ hg (bw1_ HB GE477)); replace HB := Aside0.mk (below_step (bw1_ HB GE477) hb); have NB477_478 := Aside0.mk ((by rw [hg]; exact Nat.ne_of_lt (blk_lt (bk_ BK477)) : gb477 ≠ gb478)); have NB478_477 := Aside0.mk ((by rw [hg]; exact Nat.ne_of_gt (blk_lt (bk_ BK477)) : gb478 ≠ gb477)); replace BK477 := Aside0.mk (blk_below (bk_ BK477) hb); clear hb hbox hg; have hnb9 := NB477_478.out; have hnc9 := NB478_477.out; have hcz10_0 := cz_ BK477 0 (.string a0_0); have hcz10_1 := cz_ BK477 1 (.int .i64 a0_1); have hcz10_2 := cz_ BK477 2 (.string a0_2); have hcz10_3 := cz_ BK477 3 (.bool a0_3); have hfz10_0 := blk_frozen BK477.out 0; have hfz10_1 := blk_frozen BK477.out 1; have hfz10_2 := blk_frozen BK477.out 2; have hfz10_3 := blk_frozen BK477.out 3; have hcz11_0 := cz_ BK478 0 (.string a1_0); have hcz11_1 := cz_ BK478 1 (.int .i64 a1_1); have hcz11_2 := cz_ BK478 2 (.string a1_2); have hcz11_3 := cz_ BK478 3 (.bool a1_3); have hfz11_0 := blk_frozen BK478.out 0; have hfz11_1 := blk_frozen BK478.out 1; have hfz11_2 := blk_frozen BK478.out 2; have hfz11_3 := blk_frozen BK478.out 3))
 go_ret
 exact ⟨eR_, bw2_ HB GE477 GE478⟩}
 {
 rw [if_neg c6] at H
 have c6b0 : (a0_3 != a1_3) = false := by simpa using c6
 (try (have c6b1 : decide (a0_3 = a1_3) = true := by simpa using c6))
 (try (have c6b2 : (a0_3 == a1_3) = true := by simpa using c6))
 clear c6
 obtain rfl := Option.some.inj H
 go_enter Tryz.func54, Tryz.ntmps54
 go_wp2_with (first | ((with_reducible refine gate_dst (N := 2) rfl ?_); refine bE_ 2 #[.string a0_0, .int .i64 a0_1, .string a0_2, .bool a0_3] 57 ?_; intro gb477 hg w12 hbox hb; have BK477 := Aside0.mk (hbox); have GW477 := Aside0.mk (ge_ hg (bw_ HB)); have GE477 := Aside0.mk (ge_ hg (bw_ HB)); replace HB := Aside0.mk (below_step (bw_ HB) hb); clear hb hbox hg) | ((with_reducible refine gate_dst (N := 3) rfl ?_); refine bE_ 3 #[.string a1_0, .int .i64 a1_1, .string a1_2, .bool a1_3] 57 ?_; intro gb478 hg w13 hbox hb; have BK478 := Aside0.mk (hbox); have GW478 := Aside0.mk (ge_ hg (bw1_ HB GE477)); have GE478 := Aside0.mk (ge_ hg (bw1_ HB GE477)); replace HB := Aside0.mk (below_step (bw1_ HB GE477) hb); have NB477_478 := Aside0.mk ((by rw [hg]; exact Nat.ne_of_lt (blk_lt (bk_ BK477)) : gb477 ≠ gb478)); have NB478_477 := Aside0.mk ((by rw [hg]; exact Nat.ne_of_gt (blk_lt (bk_ BK477)) : gb478 ≠ gb477)); replace BK477 := Aside0.mk (blk_below (bk_ BK477) hb); clear hb hbox hg; have hnb14 := NB477_478.out; have hnc14 := NB478_477.out; have hcz15_0 := cz_ BK477 0 (.string a0_0); have hcz15_1 := cz_ BK477 1 (.int .i64 a0_1); have hcz15_2 := cz_ BK477 2 (.string a0_2); have hcz15_3 := cz_ BK477 3 (.bool a0_3); have hfz15_0 := blk_frozen BK477.out 0; have hfz15_1 := blk_frozen BK477.out 1; have hfz15_2 := blk_frozen BK477.out 2; have hfz15_3 := blk_frozen BK477.out 3; have hcz16_0 := cz_ BK478 0 (.string a1_0); have hcz16_1 := cz_ BK478 1 (.int .i64 a1_1); have hcz16_2 := cz_ BK478 2 (.string a1_2); have hcz16_3 := cz_ BK478 3 (.bool a1_3); have hfz16_0 := blk_frozen BK478.out 0; have hfz16_1 := blk_frozen BK478.out 1; have hfz16_2 := blk_frozen BK478.out 2; have hfz16_3 := blk_frozen BK478.out 3))
 go_ret
 exact ⟨eR_, bw2_ HB GE477 GE478⟩}}
 {
 rw [if_neg c5] at H
 have c5b0 : (a0_2.toList == a1_2.toList) = false := beq_eq_false_iff_ne.mpr c5
 have c5b1 : (a0_2.toList != a1_2.toList) = true := bne_iff_ne.mpr c5
 obtain rfl := Option.some.inj H
 go_enter Tryz.func54, Tryz.ntmps54
 go_wp2_with (first | ((with_reducible refine gate_dst (N := 2) rfl ?_); refine bE_ 2 #[.string a0_0, .int .i64 a0_1, .string a0_2, .bool a0_3] 57 ?_; intro gb477 hg w17 hbox hb; have BK477 := Aside0.mk (hbox); have GW477 := Aside0.mk (ge_ hg (bw_ HB)); have GE477 := Aside0.mk (ge_ hg (bw_ HB)); replace HB := Aside0.mk (below_step (bw_ HB) hb); clear hb hbox hg) | ((with_reducible refine gate_dst (N := 3) rfl ?_); refine bE_ 3 #[.string a1_0, .int .i64 a1_1, .string a1_2, .bool a1_3] 57 ?_; intro gb478 hg w18 hbox hb; have BK478 := Aside0.mk (hbox); have GW478 := Aside0.mk (ge_ hg (bw1_ HB GE477)); have GE478 := Aside0.mk (ge_ hg (bw1_ HB GE477)); replace HB := Aside0.mk (below_step (bw1_ HB GE477) hb); have NB477_478 := Aside0.mk ((by rw [hg]; exact Nat.ne_of_lt (blk_lt (bk_ BK477)) : gb477 ≠ gb478)); have NB478_477 := Aside0.mk ((by rw [hg]; exact Nat.ne_of_gt (blk_lt (bk_ BK477)) : gb478 ≠ gb477)); replace BK477 := Aside0.mk (blk_below (bk_ BK477) hb); clear hb hbox hg; have hnb19 := NB477_478.out; have hnc19 := NB478_477.out; have hcz20_0 := cz_ BK477 0 (.string a0_0); have hcz20_1 := cz_ BK477 1 (.int .i64 a0_1); have hcz20_2 := cz_ BK477 2 (.string a0_2); have hcz20_3 := cz_ BK477 3 (.bool a0_3); have hfz20_0 := blk_frozen BK477.out 0; have hfz20_1 := blk_frozen BK477.out 1; have hfz20_2 := blk_frozen BK477.out 2; have hfz20_3 := blk_frozen BK477.out 3; have hcz21_0 := cz_ BK478 0 (.string a1_0); have hcz21_1 := cz_ BK478 1 (.int .i64 a1_1); have hcz21_2 := cz_ BK478 2 (.string a1_2); have hcz21_3 := cz_ BK478 3 (.bool a1_3); have hfz21_0 := blk_frozen BK478.out 0; have hfz21_1 := blk_frozen BK478.out 1; have hfz21_2 := blk_frozen BK478.out 2; have hfz21_3 := blk_frozen BK478.out 3))
 go_ret
 exact ⟨eR_, bw2_ HB GE477 GE478⟩}}
 {
 rw [if_neg c4] at H
 have c4b0 : (a0_1 == a1_1) = false := beq_eq_false_iff_ne.mpr c4
 have c4b1 : (a0_1 != a1_1) = true := bne_iff_ne.mpr c4
 obtain rfl := Option.some.inj H
 go_enter Tryz.func54, Tryz.ntmps54
 go_wp2_with (first | ((with_reducible refine gate_dst (N := 2) rfl ?_); refine bE_ 2 #[.string a0_0, .int .i64 a0_1, .string a0_2, .bool a0_3] 57 ?_; intro gb477 hg w22 hbox hb; have BK477 := Aside0.mk (hbox); have GW477 := Aside0.mk (ge_ hg (bw_ HB)); have GE477 := Aside0.mk (ge_ hg (bw_ HB)); replace HB := Aside0.mk (below_step (bw_ HB) hb); clear hb hbox hg) | ((with_reducible refine gate_dst (N := 3) rfl ?_); refine bE_ 3 #[.string a1_0, .int .i64 a1_1, .string a1_2, .bool a1_3] 57 ?_; intro gb478 hg w23 hbox hb; have BK478 := Aside0.mk (hbox); have GW478 := Aside0.mk (ge_ hg (bw1_ HB GE477)); have GE478 := Aside0.mk (ge_ hg (bw1_ HB GE477)); replace HB := Aside0.mk (below_step (bw1_ HB GE477) hb); have NB477_478 := Aside0.mk ((by rw [hg]; exact Nat.ne_of_lt (blk_lt (bk_ BK477)) : gb477 ≠ gb478)); have NB478_477 := Aside0.mk ((by rw [hg]; exact Nat.ne_of_gt (blk_lt (bk_ BK477)) : gb478 ≠ gb477)); replace BK477 := Aside0.mk (blk_below (bk_ BK477) hb); clear hb hbox hg; have hnb24 := NB477_478.out; have hnc24 := NB478_477.out; have hcz25_0 := cz_ BK477 0 (.string a0_0); have hcz25_1 := cz_ BK477 1 (.int .i64 a0_1); have hcz25_2 := cz_ BK477 2 (.string a0_2); have hcz25_3 := cz_ BK477 3 (.bool a0_3); have hfz25_0 := blk_frozen BK477.out 0; have hfz25_1 := blk_frozen BK477.out 1; have hfz25_2 := blk_frozen BK477.out 2; have hfz25_3 := blk_frozen BK477.out 3; have hcz26_0 := cz_ BK478 0 (.string a1_0); have hcz26_1 := cz_ BK478 1 (.int .i64 a1_1); have hcz26_2 := cz_ BK478 2 (.string a1_2); have hcz26_3 := cz_ BK478 3 (.bool a1_3); have hfz26_0 := blk_frozen BK478.out 0; have hfz26_1 := blk_frozen BK478.out 1; have hfz26_2 := blk_frozen BK478.out 2; have hfz26_3 := blk_frozen BK478.out 3))
 go_ret
 exact ⟨eR_, bw2_ HB GE477 GE478⟩}}
 {
 rw [if_neg c3] at H
 have c3b0 : (a0_0.toList == a1_0.toList) = false := beq_eq_false_iff_ne.mpr c3
 have c3b1 : (a0_0.toList != a1_0.toList) = true := bne_iff_ne.mpr c3
 obtain rfl := Option.some.inj H
 go_enter Tryz.func54, Tryz.ntmps54
 go_wp2_with (first | ((with_reducible refine gate_dst (N := 2) rfl ?_); refine bE_ 2 #[.string a0_0, .int .i64 a0_1, .string a0_2, .bool a0_3] 57 ?_; intro gb477 hg w27 hbox hb; have BK477 := Aside0.mk (hbox); have GW477 := Aside0.mk (ge_ hg (bw_ HB)); have GE477 := Aside0.mk (ge_ hg (bw_ HB)); replace HB := Aside0.mk (below_step (bw_ HB) hb); clear hb hbox hg) | ((with_reducible refine gate_dst (N := 3) rfl ?_); refine bE_ 3 #[.string a1_0, .int .i64 a1_1, .string a1_2, .bool a1_3] 57 ?_; intro gb478 hg w28 hbox hb; have BK478 := Aside0.mk (hbox); have GW478 := Aside0.mk (ge_ hg (bw1_ HB GE477)); have GE478 := Aside0.mk (ge_ hg (bw1_ HB GE477)); replace HB := Aside0.mk (below_step (bw1_ HB GE477) hb); have NB477_478 := Aside0.mk ((by rw [hg]; exact Nat.ne_of_lt (blk_lt (bk_ BK477)) : gb477 ≠ gb478)); have NB478_477 := Aside0.mk ((by rw [hg]; exact Nat.ne_of_gt (blk_lt (bk_ BK477)) : gb478 ≠ gb477)); replace BK477 := Aside0.mk (blk_below (bk_ BK477) hb); clear hb hbox hg; have hnb29 := NB477_478.out; have hnc29 := NB478_477.out; have hcz30_0 := cz_ BK477 0 (.string a0_0); have hcz30_1 := cz_ BK477 1 (.int .i64 a0_1); have hcz30_2 := cz_ BK477 2 (.string a0_2); have hcz30_3 := cz_ BK477 3 (.bool a0_3); have hfz30_0 := blk_frozen BK477.out 0; have hfz30_1 := blk_frozen BK477.out 1; have hfz30_2 := blk_frozen BK477.out 2; have hfz30_3 := blk_frozen BK477.out 3; have hcz31_0 := cz_ BK478 0 (.string a1_0); have hcz31_1 := cz_ BK478 1 (.int .i64 a1_1); have hcz31_2 := cz_ BK478 2 (.string a1_2); have hcz31_3 := cz_ BK478 3 (.bool a1_3); have hfz31_0 := blk_frozen BK478.out 0; have hfz31_1 := blk_frozen BK478.out 1; have hfz31_2 := blk_frozen BK478.out 2; have hfz31_3 := blk_frozen BK478.out 3))
 go_ret
 exact ⟨eR_, bw2_ HB GE477 GE478⟩
}
def laws_eqEntryS.l0 : Nat → List (S57) → List (S57) → Int → Option (Bool)
 | 0, _, _, _ => none
 | k + 1, x0, x1, x5 => if x5 < (x0.length : Int) then (if 0 ≤ x5 then (if x5 < (x1.length : Int) then ((laws_eqEntry.f ((rd_T57 x0 x5).f0) ((rd_T57 x0 x5).f1) ((rd_T57 x0 x5).f2) ((rd_T57 x0 x5).f3) ((rd_T57 x1 x5).f0) ((rd_T57 x1 x5).f1) ((rd_T57 x1 x5).f2) ((rd_T57 x1 x5).f3)).bind fun t481 => (if t481 = true then (laws_eqEntryS.l0 k x0 x1 (wrap64 (x5 + 1))) else (some false))) else (none)) else (none)) else (some true)
def laws_eqEntryS.f (k : Nat) (l0 : List (S57)) (l1 : List (S57)) : Option (Bool) := if (l0.length : Int) = (l1.length : Int) then (laws_eqEntryS.l0 k l0 l1 0) else (some false)
def laws_eqEntryS.T6 : Bool × List (List Nat × List Nat) := (true, [([], []), ([], []), ([0, 1], [0, 1]), ([2], [2]), ([], []), ([], []), ([4, 5], [4, 5]), ([6], [6]), ([3, 7], [3, 7]), ([8], [8])])
def laws_eqEntryS.B6 : List Nat := [0, 0, 3, 7, 0, 0, 48, 112, 255, 511]
theorem laws_eqEntryS.tab6 : rtab .any (opsOf Tryz.f23 6) = laws_eqEntryS.T6 := by kernel_rfl
theorem laws_eqEntryS.bits6 : waitsOk laws_eqEntryS.T6.2 laws_eqEntryS.B6 = true := by kernel_rfl
set_option maxHeartbeats 8000000 in
set_option maxRecDepth 100000 in
theorem laws_eqEntryS.calls (k : Nat) (A0 : Option Addr) (c0 : Nat) (l0 : List (S57)) (A1 : Option Addr) (c1 : Nat) (l1 : List (S57)) (r : Bool) (w : World) (hr0 : Kd.C k57 w A0 l0.length l0) (hc0 : l0.length ≤ c0) (hr1 : Kd.C k57 w A1 l1.length l1) (hc1 : l1.length ≤ c1) (h : laws_eqEntryS.f k l0 l1 = some r) :
 Calls Tryz.prog 23 #[.slice A0 l0.length c0, .slice A1 l1.length c1] w fun e w' => e = .returned (.bool r) ∧ Below w.heap.size w w' := by
 have hu57 := Tryz.underlying57
 have HR0 := Aside0.mk hr0
 have HC0 := Aside0.mk hc0
 clear hr0 hc0
 have HR1 := Aside0.mk hr1
 have HC1 := Aside0.mk hc1
 clear hr1 hc1
 have HB := Aside0.mk (Below.refl w.heap.size w)
 have H : (if (l0.length : Int) = (l1.length : Int) then (laws_eqEntryS.l0 k l0 l1 0) else (some false)) = some r := h
 clear h
 by_cases c3 : (l0.length : Int) = (l1.length : Int)
 {
 rw [if_pos c3] at H
 have c3b0 : ((l0.length : Int) == (l1.length : Int)) = true := beq_iff_eq.mpr c3
 have c3b1 : ((l0.length : Int) != (l1.length : Int)) = false := bne_eq_false_iff_eq.mpr c3
 have c3b2 : (l0.length == l1.length) = true := by first | simpa using c3 | (simp at c3 ⊢; omega)
 clear c3
 have H' := Aside0.mk H
 clear H
 go_enter Tryz.func23, Tryz.ntmps23
 go_wp2
 go_loopg [5] k (fun kq v5 w' => ∃ (x5_1 : Int), v5 = .int .i64 x5_1 ∧ Aside0 (laws_eqEntryS.l0 kq l0 l1 x5_1 = some r) ∧ Aside0 (kq ≤ k) ∧ Aside0 (Below w.heap.size w w'))
 case atStart => exact ⟨(0), (by first | rfl | (simp; done) | (simp [*]; done)), H', ⟨Nat.le_refl _⟩, ⟨bw_ HB⟩⟩
 case round =>
  clear H'
  try clear c1
  try clear c2
  try clear p2
  try clear c3
  try clear c3b0
  try clear c3b1
  try clear c3b2
  obtain ⟨x5_1, rfl, HA, HK1, HB⟩ := hrel
  cases gk with
  | zero => exact absurd HA.out (by simp [laws_eqEntryS.l0])
  | succ k1 =>
   have H := HA.out
   clear HA
   simp only [laws_eqEntryS.l0] at H
   by_cases c4 : x5_1 < (l0.length : Int)
   {
   rw [if_pos c4] at H
   have c4b0 := decide_eq_true c4
   clear c4
   by_cases c5 : 0 ≤ x5_1
   {
   rw [if_pos c5] at H
   have c5b0 := decide_eq_true c5
   clear c5
   by_cases c6 : x5_1 < (l1.length : Int)
   {
   rw [if_pos c6] at H
   have c6b0 := decide_eq_true c6
   clear c6
   replace H := Option.bind_eq_some_iff.mp H
   obtain ⟨t481, A70, H⟩ := H
   have A7 := Aside0.mk A70
   clear A70
   by_cases c8 : t481 = true
   {
   subst c8
   rw [if_pos rfl] at H
   have H' := Aside0.mk H
   clear H
   try go_wp2
   replace HB := Aside0.mk (below_drew1 HB.out)
   have p479 : 0 ≤ (x5_1 : Int) := dA_
   have q479 : x5_1 < (l0.length : Int) := dA_
   obtain ⟨ad479, e479, hx479_0, hx479_1, hx479_2, hx479_3⟩ := at_T57 HR0.out x5_1 p479 q479
   have hw479_3 := hx479_3
   have hw479_2 := hx479_2
   have hw479_1 := hx479_1
   have hw479_0 := hx479_0
   cases e479
   replace hx479_0 := hX_ HB hx479_0
   replace hx479_1 := hX_ HB hx479_1
   replace hx479_2 := hX_ HB hx479_2
   replace hx479_3 := hX_ HB hx479_3
   replace p479 := eq_true p479
   replace q479 := eq_true q479
   have p480 : 0 ≤ (x5_1 : Int) := dA_
   have q480 : x5_1 < (l1.length : Int) := dA_
   obtain ⟨ad480, e480, hx480_0, hx480_1, hx480_2, hx480_3⟩ := at_T57 HR1.out x5_1 p480 q480
   have hw480_3 := hx480_3
   have hw480_2 := hx480_2
   have hw480_1 := hx480_1
   have hw480_0 := hx480_0
   cases e480
   replace hx480_0 := hX_ HB hx480_0
   replace hx480_1 := hX_ HB hx480_1
   replace hx480_2 := hX_ HB hx480_2
   replace hx480_3 := hX_ HB hx480_3
   replace p480 := eq_true p480
   replace q480 := eq_true q480
   refine start_ (n := 10) (S := fun w' => w'.cell? (ad479.add ((x5_1).toNat * 4)) = some (.string ((rd_T57 l0 x5_1).f0)) ∧ w'.cell? ⟨(ad479.add ((x5_1).toNat * 4)).block, (ad479.add ((x5_1).toNat * 4)).off + 1, none⟩ = some (.int .i64 ((rd_T57 l0 x5_1).f1)) ∧ w'.cell? ⟨(ad479.add ((x5_1).toNat * 4)).block, (ad479.add ((x5_1).toNat * 4)).off + 2, none⟩ = some (.string ((rd_T57 l0 x5_1).f2)) ∧ w'.cell? ⟨(ad479.add ((x5_1).toNat * 4)).block, (ad479.add ((x5_1).toNat * 4)).off + 3, none⟩ = some (.bool ((rd_T57 l0 x5_1).f3)) ∧ w'.cell? (ad480.add ((x5_1).toNat * 4)) = some (.string ((rd_T57 l1 x5_1).f0)) ∧ w'.cell? ⟨(ad480.add ((x5_1).toNat * 4)).block, (ad480.add ((x5_1).toNat * 4)).off + 1, none⟩ = some (.int .i64 ((rd_T57 l1 x5_1).f1)) ∧ w'.cell? ⟨(ad480.add ((x5_1).toNat * 4)).block, (ad480.add ((x5_1).toNat * 4)).off + 2, none⟩ = some (.string ((rd_T57 l1 x5_1).f2)) ∧ w'.cell? ⟨(ad480.add ((x5_1).toNat * 4)).block, (ad480.add ((x5_1).toNat * 4)).off + 3, none⟩ = some (.bool ((rd_T57 l1 x5_1).f3))) (ds := []) (bs_ 10 0) (by kernel_rfl) rfl (by kernel_rfl) ⟨((HB.out.cell (World.block_lt_of_cell? w _ hw479_0)).trans hw479_0), ((HB.out.cell (World.block_lt_of_cell? w _ hw479_1)).trans hw479_1), ((HB.out.cell (World.block_lt_of_cell? w _ hw479_2)).trans hw479_2), ((HB.out.cell (World.block_lt_of_cell? w _ hw479_3)).trans hw479_3), ((HB.out.cell (World.block_lt_of_cell? w _ hw480_0)).trans hw480_0), ((HB.out.cell (World.block_lt_of_cell? w _ hw480_1)).trans hw480_1), ((HB.out.cell (World.block_lt_of_cell? w _ hw480_2)).trans hw480_2), ((HB.out.cell (World.block_lt_of_cell? w _ hw480_3)).trans hw480_3)⟩ (fun hHeld => ?_); refine with_tabW laws_eqEntryS.tab6 laws_eqEntryS.bits6 (fun HT_ HW_ => ?_)
   generalize wr.drew = w9 at HB hx479_0 hx479_1 hx479_2 hx479_3 hx480_0 hx480_1 hx480_2 hx480_3 hHeld ⊢
   refine pS_ 0 ?_
   refine pS_ 1 ?_
   refine pS_ 2 ?_
   refine pS_ 4 ?_
   refine pS_ 5 ?_
   refine pS_ 6 ?_
   refine t8_ 3 hHeld ?_
   refine t8_ 7 hHeld ?_
   refine oS_ 8 (fun K hK => ?_)
   refine gS_ Tryz.func54 #[.agg #[.string ((rd_T57 l0 x5_1).f0), .int .i64 ((rd_T57 l0 x5_1).f1), .string ((rd_T57 l0 x5_1).f2), .bool ((rd_T57 l0 x5_1).f3)], .agg #[.string ((rd_T57 l1 x5_1).f0), .int .i64 ((rd_T57 l1 x5_1).f1), .string ((rd_T57 l1 x5_1).f2), .bool ((rd_T57 l1 x5_1).f3)]] ?_
   with_reducible refine (laws_eqEntry.calls ((rd_T57 l0 x5_1).f0) ((rd_T57 l0 x5_1).f1) ((rd_T57 l0 x5_1).f2) ((rd_T57 l0 x5_1).f3) ((rd_T57 l1 x5_1).f0) ((rd_T57 l1 x5_1).f1) ((rd_T57 l1 x5_1).f2) ((rd_T57 l1 x5_1).f3) true _ A7.out).mono ?_
   rintro e w10 ⟨rfl, hb⟩
   refine ⟨_, rfl, ?_⟩
   replace HB := Aside0.mk (below_step (bw_ HB) hb)
   (try clear hb)
   (try clear hb2)
   (try clear hk)
   (try clear hi)
   refine hK.out _ _ ⟨((HB.out.cell (World.block_lt_of_cell? w _ hw479_0)).trans hw479_0), ((HB.out.cell (World.block_lt_of_cell? w _ hw479_1)).trans hw479_1), ((HB.out.cell (World.block_lt_of_cell? w _ hw479_2)).trans hw479_2), ((HB.out.cell (World.block_lt_of_cell? w _ hw479_3)).trans hw479_3), ((HB.out.cell (World.block_lt_of_cell? w _ hw480_0)).trans hw480_0), ((HB.out.cell (World.block_lt_of_cell? w _ hw480_1)).trans hw480_1), ((HB.out.cell (World.block_lt_of_cell? w _ hw480_2)).trans hw480_2), ((HB.out.cell (World.block_lt_of_cell? w _ hw480_3)).trans hw480_3)⟩ (fun hHeld => ?_)
   clear hK K
   refine nS_ 25 ?_
   refine pS_ 9 ?_
   refine done_ (done_of HT_.out (by kernel_rfl)) ?_
   try go_wp2
   go_roundg k1
   case measure => have := HK1.out; omega
   case rel => exact ⟨(wrap64 (x5_1 + 1)), (by first | rfl | (simp; done) | (simp [*]; done)), H', ⟨by have := HK1.out; omega⟩, ⟨bw_ HB⟩⟩}
   {
   replace c8 := Bool.eq_false_iff.mpr c8
   subst c8
   rw [if_neg (show ¬ (false = true) by decide)] at H
   obtain rfl := Option.some.inj H
   try go_wp2
   replace HB := Aside0.mk (below_drew1 HB.out)
   have p479 : 0 ≤ (x5_1 : Int) := dA_
   have q479 : x5_1 < (l0.length : Int) := dA_
   obtain ⟨ad479, e479, hx479_0, hx479_1, hx479_2, hx479_3⟩ := at_T57 HR0.out x5_1 p479 q479
   have hw479_3 := hx479_3
   have hw479_2 := hx479_2
   have hw479_1 := hx479_1
   have hw479_0 := hx479_0
   cases e479
   replace hx479_0 := hX_ HB hx479_0
   replace hx479_1 := hX_ HB hx479_1
   replace hx479_2 := hX_ HB hx479_2
   replace hx479_3 := hX_ HB hx479_3
   replace p479 := eq_true p479
   replace q479 := eq_true q479
   have p480 : 0 ≤ (x5_1 : Int) := dA_
   have q480 : x5_1 < (l1.length : Int) := dA_
   obtain ⟨ad480, e480, hx480_0, hx480_1, hx480_2, hx480_3⟩ := at_T57 HR1.out x5_1 p480 q480
   have hw480_3 := hx480_3
   have hw480_2 := hx480_2
   have hw480_1 := hx480_1
   have hw480_0 := hx480_0
   cases e480
   replace hx480_0 := hX_ HB hx480_0
   replace hx480_1 := hX_ HB hx480_1
   replace hx480_2 := hX_ HB hx480_2
   replace hx480_3 := hX_ HB hx480_3
   replace p480 := eq_true p480
   replace q480 := eq_true q480
   refine start_ (n := 10) (S := fun w' => w'.cell? (ad479.add ((x5_1).toNat * 4)) = some (.string ((rd_T57 l0 x5_1).f0)) ∧ w'.cell? ⟨(ad479.add ((x5_1).toNat * 4)).block, (ad479.add ((x5_1).toNat * 4)).off + 1, none⟩ = some (.int .i64 ((rd_T57 l0 x5_1).f1)) ∧ w'.cell? ⟨(ad479.add ((x5_1).toNat * 4)).block, (ad479.add ((x5_1).toNat * 4)).off + 2, none⟩ = some (.string ((rd_T57 l0 x5_1).f2)) ∧ w'.cell? ⟨(ad479.add ((x5_1).toNat * 4)).block, (ad479.add ((x5_1).toNat * 4)).off + 3, none⟩ = some (.bool ((rd_T57 l0 x5_1).f3)) ∧ w'.cell? (ad480.add ((x5_1).toNat * 4)) = some (.string ((rd_T57 l1 x5_1).f0)) ∧ w'.cell? ⟨(ad480.add ((x5_1).toNat * 4)).block, (ad480.add ((x5_1).toNat * 4)).off + 1, none⟩ = some (.int .i64 ((rd_T57 l1 x5_1).f1)) ∧ w'.cell? ⟨(ad480.add ((x5_1).toNat * 4)).block, (ad480.add ((x5_1).toNat * 4)).off + 2, none⟩ = some (.string ((rd_T57 l1 x5_1).f2)) ∧ w'.cell? ⟨(ad480.add ((x5_1).toNat * 4)).block, (ad480.add ((x5_1).toNat * 4)).off + 3, none⟩ = some (.bool ((rd_T57 l1 x5_1).f3))) (ds := []) (bs_ 10 0) (by kernel_rfl) rfl (by kernel_rfl) ⟨((HB.out.cell (World.block_lt_of_cell? w _ hw479_0)).trans hw479_0), ((HB.out.cell (World.block_lt_of_cell? w _ hw479_1)).trans hw479_1), ((HB.out.cell (World.block_lt_of_cell? w _ hw479_2)).trans hw479_2), ((HB.out.cell (World.block_lt_of_cell? w _ hw479_3)).trans hw479_3), ((HB.out.cell (World.block_lt_of_cell? w _ hw480_0)).trans hw480_0), ((HB.out.cell (World.block_lt_of_cell? w _ hw480_1)).trans hw480_1), ((HB.out.cell (World.block_lt_of_cell? w _ hw480_2)).trans hw480_2), ((HB.out.cell (World.block_lt_of_cell? w _ hw480_3)).trans hw480_3)⟩ (fun hHeld => ?_); refine with_tabW laws_eqEntryS.tab6 laws_eqEntryS.bits6 (fun HT_ HW_ => ?_)
   generalize wr.drew = w11 at HB hx479_0 hx479_1 hx479_2 hx479_3 hx480_0 hx480_1 hx480_2 hx480_3 hHeld ⊢
   refine pS_ 0 ?_
   refine pS_ 1 ?_
   refine pS_ 2 ?_
   refine pS_ 4 ?_
   refine pS_ 5 ?_
   refine pS_ 6 ?_
   refine t8_ 3 hHeld ?_
   refine t8_ 7 hHeld ?_
   refine oS_ 8 (fun K hK => ?_)
   refine gS_ Tryz.func54 #[.agg #[.string ((rd_T57 l0 x5_1).f0), .int .i64 ((rd_T57 l0 x5_1).f1), .string ((rd_T57 l0 x5_1).f2), .bool ((rd_T57 l0 x5_1).f3)], .agg #[.string ((rd_T57 l1 x5_1).f0), .int .i64 ((rd_T57 l1 x5_1).f1), .string ((rd_T57 l1 x5_1).f2), .bool ((rd_T57 l1 x5_1).f3)]] ?_
   with_reducible refine (laws_eqEntry.calls ((rd_T57 l0 x5_1).f0) ((rd_T57 l0 x5_1).f1) ((rd_T57 l0 x5_1).f2) ((rd_T57 l0 x5_1).f3) ((rd_T57 l1 x5_1).f0) ((rd_T57 l1 x5_1).f1) ((rd_T57 l1 x5_1).f2) ((rd_T57 l1 x5_1).f3) false _ A7.out).mono ?_
   rintro e w12 ⟨rfl, hb⟩
   refine ⟨_, rfl, ?_⟩
   replace HB := Aside0.mk (below_step (bw_ HB) hb)
   (try clear hb)
   (try clear hb2)
   (try clear hk)
   (try clear hi)
   refine hK.out _ _ ⟨((HB.out.cell (World.block_lt_of_cell? w _ hw479_0)).trans hw479_0), ((HB.out.cell (World.block_lt_of_cell? w _ hw479_1)).trans hw479_1), ((HB.out.cell (World.block_lt_of_cell? w _ hw479_2)).trans hw479_2), ((HB.out.cell (World.block_lt_of_cell? w _ hw479_3)).trans hw479_3), ((HB.out.cell (World.block_lt_of_cell? w _ hw480_0)).trans hw480_0), ((HB.out.cell (World.block_lt_of_cell? w _ hw480_1)).trans hw480_1), ((HB.out.cell (World.block_lt_of_cell? w _ hw480_2)).trans hw480_2), ((HB.out.cell (World.block_lt_of_cell? w _ hw480_3)).trans hw480_3)⟩ (fun hHeld => ?_)
   clear hK K
   refine nS_ 25 ?_
   refine pS_ 9 ?_
   refine done_ (done_of HT_.out (by kernel_rfl)) ?_
   try go_wp2
   go_ret
   exact ⟨eR_, bw_ HB⟩}}
   {
   rw [if_neg c6] at H
   exact absurd H (by simp)}}
   {
   rw [if_neg c5] at H
   exact absurd H (by simp)}}
   {
   rw [if_neg c4] at H
   have c4b0 := decide_eq_false c4
   clear c4
   obtain rfl := Option.some.inj H
   go_wp2
   go_ret
   exact ⟨eR_, bw_ HB⟩}}
 {
 rw [if_neg c3] at H
 have c3b0 : ((l0.length : Int) == (l1.length : Int)) = false := beq_eq_false_iff_ne.mpr c3
 have c3b1 : ((l0.length : Int) != (l1.length : Int)) = true := bne_iff_ne.mpr c3
 have c3b2 : (l0.length == l1.length) = false := by first | simpa using c3 | (simp at c3 ⊢; omega)
 obtain rfl := Option.some.inj H
 go_enter Tryz.func23, Tryz.ntmps23
 go_wp2
 go_ret
 exact ⟨eR_, bw_ HB⟩
}
end Go.Proofs.YtikjbfjnbhaljaaGreatDoor.P
end

section
namespace Go.Proofs.YtikjbfjnbhaljaaGreatDoor.P
open Go.RowKit Go.Proofs.YtikjbfjnbhaljaaGreatDoorW.PrintWords Go.Proofs.YtikjbfjnbhaljaaGreatDoorW.PrintLast Go.Proofs.YtikjbfjnbhaljaaGreatDoorW.PrintMore Go.Proofs.YtikjbfjnbhaljaaGreatDoorM
attribute [local go_sem] max2_int min2_int max_two min_two max_three min_three max_four min_four
set_option linter.unusedVariables false
set_option linter.unusedSimpArgs false
def laws_toEntry.f (a0_0 : ByteArray) (a0_1 : Int) (a0_2 : ByteArray) (a0_3 : Bool) : Option (ByteArray × Int × ByteArray × Bool) := some (a0_0, a0_1, a0_2, a0_3)
set_option maxHeartbeats 8000000 in
set_option maxRecDepth 100000 in
theorem laws_toEntry.calls (a0_0 : ByteArray) (a0_1 : Int) (a0_2 : ByteArray) (a0_3 : Bool) (r1 : ByteArray) (r2 : Int) (r3 : ByteArray) (r4 : Bool) (w : World) (h : laws_toEntry.f a0_0 a0_1 a0_2 a0_3 = some (r1, r2, r3, r4)) :
 Calls Tryz.prog 47 #[.agg #[.string a0_0, .int .i64 a0_1, .string a0_2, .bool a0_3]] w fun e w' => e = .returned (.agg #[.string r1, .int .i64 r2, .string r3, .bool r4]) ∧ Below w.heap.size w w' := by
 have hu70 := Tryz.underlying70
 have hu57 := Tryz.underlying57
 have HB := Aside0.mk (Below.refl w.heap.size w)
 have H : (some (a0_0, a0_1, a0_2, a0_3)) = some (r1, r2, r3, r4) := h
 clear h
 simp only [Option.some.injEq, Prod.mk.injEq] at H
 obtain ⟨rfl, rfl, rfl, rfl⟩ := H
 go_enter Tryz.func47, Tryz.ntmps47
 go_wp2_with (first | ((with_reducible refine gate_dst (N := 1) rfl ?_); refine bE_ 1 #[.string a0_0, .int .i64 a0_1, .string a0_2, .bool a0_3] 70 ?_; intro gb302 hg w2 hbox hb; have BK302 := Aside0.mk (hbox); have GW302 := Aside0.mk (ge_ hg (bw_ HB)); have GE302 := Aside0.mk (ge_ hg (bw_ HB)); replace HB := Aside0.mk (below_step (bw_ HB) hb); clear hb hbox hg) | ((with_reducible refine gate_dst (N := 2) rfl ?_); refine bE_ 2 #[.string (⟨#[]⟩ : ByteArray), .int .i64 0, .string (⟨#[]⟩ : ByteArray), .bool false] 57 ?_; intro gb303 hg w3 hbox hb; have BK303 := Aside0.mk (hbox); have GW303 := Aside0.mk (ge_ hg (bw1_ HB GE302)); have GE303 := Aside0.mk (ge_ hg (bw1_ HB GE302)); replace HB := Aside0.mk (below_step (bw1_ HB GE302) hb); have NB302_303 := Aside0.mk ((by rw [hg]; exact Nat.ne_of_lt (blk_lt (bk_ BK302)) : gb302 ≠ gb303)); have NB303_302 := Aside0.mk ((by rw [hg]; exact Nat.ne_of_gt (blk_lt (bk_ BK302)) : gb303 ≠ gb302)); replace BK302 := Aside0.mk (blk_below (bk_ BK302) hb); clear hb hbox hg) | ((with_reducible refine gate_dst (N := 3) rfl ?_); refine bE_ 3 #[.string (⟨#[]⟩ : ByteArray), .int .i64 0, .string (⟨#[]⟩ : ByteArray), .bool false] 57 ?_; intro gb304 hg w4 hbox hb; have BK304 := Aside0.mk (hbox); have GW304 := Aside0.mk (ge_ hg (bw2_ HB GE302 GE303)); have GE304 := Aside0.mk (ge_ hg (bw2_ HB GE302 GE303)); replace HB := Aside0.mk (below_step (bw2_ HB GE302 GE303) hb); have NB302_304 := Aside0.mk ((by rw [hg]; exact Nat.ne_of_lt (blk_lt (bk_ BK302)) : gb302 ≠ gb304)); have NB304_302 := Aside0.mk ((by rw [hg]; exact Nat.ne_of_gt (blk_lt (bk_ BK302)) : gb304 ≠ gb302)); replace BK302 := Aside0.mk (blk_below (bk_ BK302) hb); have NB303_304 := Aside0.mk ((by rw [hg]; exact Nat.ne_of_lt (blk_lt (bk_ BK303)) : gb303 ≠ gb304)); have NB304_303 := Aside0.mk ((by rw [hg]; exact Nat.ne_of_gt (blk_lt (bk_ BK303)) : gb304 ≠ gb303)); replace BK303 := Aside0.mk (blk_below (bk_ BK303) hb); clear hb hbox hg; have hnb5 := NB302_303.out; have hnc5 := NB303_302.out; have hnb6 := NB302_304.out; have hnc6 := NB304_302.out; have hcz7_0 := cz_ BK302 0 (.string a0_0); have hcz7_1 := cz_ BK302 1 (.int .i64 a0_1); have hcz7_2 := cz_ BK302 2 (.string a0_2); have hcz7_3 := cz_ BK302 3 (.bool a0_3); have hfz7_0 := blk_frozen BK302.out 0; have hfz7_1 := blk_frozen BK302.out 1; have hfz7_2 := blk_frozen BK302.out 2; have hfz7_3 := blk_frozen BK302.out 3; have hnb8 := NB304_303.out; have hnc8 := NB303_304.out; have hcz9_0 := cz_ BK304 0 (.string (⟨#[]⟩ : ByteArray)); have hcz9_1 := cz_ BK304 1 (.int .i64 0); have hcz9_2 := cz_ BK304 2 (.string (⟨#[]⟩ : ByteArray)); have hcz9_3 := cz_ BK304 3 (.bool false); have hfz9_0 := blk_frozen BK304.out 0; have hfz9_1 := blk_frozen BK304.out 1; have hfz9_2 := blk_frozen BK304.out 2; have hfz9_3 := blk_frozen BK304.out 3; have hcz10_0 := cz_ BK303 0 (.string (⟨#[]⟩ : ByteArray)); have hcz10_1 := cz_ BK303 1 (.int .i64 0); have hcz10_2 := cz_ BK303 2 (.string (⟨#[]⟩ : ByteArray)); have hcz10_3 := cz_ BK303 3 (.bool false); have hfz10_0 := blk_frozen BK303.out 0; have hfz10_1 := blk_frozen BK303.out 1; have hfz10_2 := blk_frozen BK303.out 2; have hfz10_3 := blk_frozen BK303.out 3))
 refine bodyPost_ret (results_cell_row rfl _ _ gb303 57 #[.string a0_0, .int .i64 a0_1, .string a0_2, .bool a0_3] (0, 0) _ rfl (by (with_reducible repeat (first | refine blk_drewN ?_ _ | refine blk_drew ?_ | refine blk_alloc ?_ _)); refine blk_put (cs := #[.string a0_0, .int .i64 a0_1, .string a0_2, .bool false]) ?_ 3 _ rfl; (with_reducible repeat (first | refine blk_drewN ?_ _ | refine blk_drew ?_ | refine blk_alloc ?_ _)); refine blk_put (cs := #[.string a0_0, .int .i64 a0_1, .string (⟨#[]⟩ : ByteArray), .bool false]) ?_ 2 _ rfl; (with_reducible repeat (first | refine blk_drewN ?_ _ | refine blk_drew ?_ | refine blk_alloc ?_ _)); refine blk_put (cs := #[.string a0_0, .int .i64 0, .string (⟨#[]⟩ : ByteArray), .bool false]) ?_ 1 _ rfl; (with_reducible repeat (first | refine blk_drewN ?_ _ | refine blk_drew ?_ | refine blk_alloc ?_ _)); refine blk_put (cs := #[.string (⟨#[]⟩ : ByteArray), .int .i64 0, .string (⟨#[]⟩ : ByteArray), .bool false]) ?_ 0 _ rfl; (with_reducible repeat (first | refine blk_drewN ?_ _ | refine blk_drew ?_ | refine blk_alloc ?_ _)); refine blk_far ?_ NB303_304.out _; (with_reducible repeat (first | refine blk_drewN ?_ _ | refine blk_drew ?_ | refine blk_alloc ?_ _)); refine blk_far ?_ NB303_304.out _; (with_reducible repeat (first | refine blk_drewN ?_ _ | refine blk_drew ?_ | refine blk_alloc ?_ _)); refine blk_far ?_ NB303_304.out _; (with_reducible repeat (first | refine blk_drewN ?_ _ | refine blk_drew ?_ | refine blk_alloc ?_ _)); refine blk_far ?_ NB303_304.out _; (with_reducible repeat (first | refine blk_drewN ?_ _ | refine blk_drew ?_ | refine blk_alloc ?_ _)); exact BK303.out) Tryz.underlying57 rfl (by kernel_rfl)) rfl ?_
 exact ⟨eR_, by repeat (first | (with_reducible first | exact HB.out | apply below_alloc | apply pw_below_drewN | apply below_drew1 | refine below_set ?_ GE302.out | refine below_set ?_ GE303.out | refine below_set ?_ GE304.out) | exact HB.out)⟩
def laws_toEntryS.l0 : Nat → List (S70) → List (S57) → Int → Option ((List (S57)))
 | 0, _, _, _ => none
 | k + 1, x0, x3, x4 => if x4 < (x0.length : Int) then (if 0 ≤ x4 then ((laws_toEntry.f ((rd_T70 x0 x4).f0) ((rd_T70 x0 x4).f1) ((rd_T70 x0 x4).f2) ((rd_T70 x0 x4).f3)).bind fun bt309 => (if x4 < (x3.length : Int) then (laws_toEntryS.l0 k x0 (x3.set (x4 : Int).toNat (⟨bt309.1, bt309.2.1, bt309.2.2.1, bt309.2.2.2⟩ : S57)) (wrap64 (x4 + 1))) else (none))) else (none)) else (some x3)
def laws_toEntryS.f (k : Nat) (l0 : List (S70)) : Option ((List (S57))) := if 0 ≤ (l0.length : Int) then (if ((l0.length : Int) : Int).toNat ≤ 5864062014805 then (laws_toEntryS.l0 k l0 (List.replicate ((l0.length : Int) : Int).toNat z57) 0) else (none)) else (none)
set_option maxHeartbeats 8000000 in
set_option maxRecDepth 100000 in
theorem laws_toEntryS.calls (k : Nat) (A0 : Option Addr) (c0 : Nat) (l0 : List (S70)) (r : List (S57)) (w : World) (hr0 : Kd.C k70 w A0 l0.length l0) (hc0 : l0.length ≤ c0) (h : laws_toEntryS.f k l0 = some r) :
 Calls Tryz.prog 21 #[.slice A0 l0.length c0] w fun e w' => ∃ v0_ : Value, e = .returned (v0_) ∧ Kd.R k57 57 w' w.heap.size (fun _ => True) v0_ r ∧ Below w.heap.size w w' := by
 have hu70 := Tryz.underlying70
 have hu57 := Tryz.underlying57
 have HR0 := Aside0.mk hr0
 have HC0 := Aside0.mk hc0
 clear hr0 hc0
 have HB := Aside0.mk (Below.refl w.heap.size w)
 have H : (if 0 ≤ (l0.length : Int) then (if ((l0.length : Int) : Int).toNat ≤ 5864062014805 then (laws_toEntryS.l0 k l0 (List.replicate ((l0.length : Int) : Int).toNat z57) 0) else (none)) else (none)) = some r := h
 clear h
 by_cases c2 : 0 ≤ (l0.length : Int)
 {
 rw [if_pos c2] at H
 have c2b0 := eq_true c2
 have c2b1 := decide_eq_true c2
 clear c2
 by_cases c3 : ((l0.length : Int) : Int).toNat ≤ 5864062014805
 {
 rw [if_pos c3] at H
 have c3b0 := eq_true c3
 have c3b1 := decide_eq_true c3
 clear c3
 obtain ⟨y305, hy305⟩ : ∃ y_ : List (S57), y_ = (List.replicate ((l0.length : Int) : Int).toNat z57) := ⟨_, rfl⟩
 replace H : (laws_toEntryS.l0 k l0 y305 0) = some r := by first | (rw [hy305]; with_reducible exact H) | (have H2_ := (Option.bind_some _ _).symm.trans H; rw [hy305]; with_reducible exact H2_) | (have H2_ := (Option.bind_some _ _).symm.trans H; with_reducible exact H2_) | with_reducible exact H | (rw [hy305]; exact H) | exact H
 have Ny305 := Aside0.mk hy305
 clear hy305
 have H' := Aside0.mk H
 clear H
 go_enter Tryz.func21, Tryz.ntmps21
 go_wp2_with (first | ((with_reducible refine gate_dst (N := 7) rfl ?_); refine Kd.R_make k57 _ 57 rfl (N := 7) rfl 39 _ _ rfl (l0.length : Int) rfl rfl Tryz.underlying39 (.agg #[(.string ⟨#[]⟩), (.int .i64 0), (.string ⟨#[]⟩), (.bool false)]) 48 info57 rfl (by decide) (by omega) z57 (ok := fun _ => True) (okp := fun _ => True) (k57_mkM _ _ _ z57 ) (fun _ hk => hk) trivial (dA_) (Nat.le_trans (Nat.mul_le_mul_right _ (dA_ : (l0.length : Int).toNat ≤ 5864062014805)) (by omega)) (Below.refl _ _) (Nat.le_refl _) ?_; intro v306 w4 ho5 hb hg_ hnew_; clear hg_ hnew_; (first | rw [← Ny305.out] at ho5 | (simp only [Int.reduceToNat] at ho5; rw [← Ny305.out] at ho5)); have HO307 := Aside0.mk (Kd.R_lower ho5 (below_size (bw_ HB))); replace HB := Aside0.mk (below_step (bw_ HB) hb); clear hb ho5))
 go_loopg [4] k (fun kq v4 w' => ∃ (x3_1 : List (S57)) (x4_1 : Int), v4 = .int .i64 x4_1 ∧ Aside0 (laws_toEntryS.l0 kq l0 x3_1 x4_1 = some r) ∧ Aside0 (kq ≤ k) ∧ Aside0 (Kd.R k57 57 w' w.heap.size (fun _ => True) v306 x3_1) ∧ Aside0 (Below w.heap.size w w'))
 case atStart => exact ⟨(y305), (0), (by first | rfl | (simp; done) | (simp [*]; done)), H', ⟨Nat.le_refl _⟩, ⟨kr_ HO307⟩, ⟨bw_ HB⟩⟩
 case round =>
  clear H'
  try clear c2
  try clear c2b0
  try clear c2b1
  try clear p2
  try clear c3
  try clear c3b0
  try clear c3b1
  obtain ⟨x3_1, x4_1, rfl, HA, HK1, HO_3, HB⟩ := hrel
  cases gk with
  | zero => exact absurd HA.out (by simp [laws_toEntryS.l0])
  | succ k1 =>
   have H := HA.out
   clear HA
   simp only [laws_toEntryS.l0] at H
   by_cases c6 : x4_1 < (l0.length : Int)
   {
   rw [if_pos c6] at H
   have c6b0 := decide_eq_true c6
   clear c6
   by_cases c7 : 0 ≤ x4_1
   {
   rw [if_pos c7] at H
   have c7b0 := decide_eq_true c7
   clear c7
   replace H := Option.bind_eq_some_iff.mp H
   obtain ⟨⟨t309, t310, t311, t312⟩, A80, H⟩ := H
   have A8 := Aside0.mk A80
   clear A80
   by_cases c9 : x4_1 < (x3_1.length : Int)
   {
   rw [if_pos c9] at H
   have c9b0 := decide_eq_true c9
   clear c9
   obtain ⟨y313, hy313⟩ : ∃ y_ : List (S57), y_ = (x3_1.set (x4_1 : Int).toNat (⟨t309, t310, t311, t312⟩ : S57)) := ⟨_, rfl⟩
   replace H : (laws_toEntryS.l0 k1 l0 y313 (wrap64 (x4_1 + 1))) = some r := by first | (rw [hy313]; with_reducible exact H) | (have H2_ := (Option.bind_some _ _).symm.trans H; rw [hy313]; with_reducible exact H2_) | (have H2_ := (Option.bind_some _ _).symm.trans H; with_reducible exact H2_) | with_reducible exact H | (rw [hy313]; exact H) | exact H
   have Ny313 := Aside0.mk hy313
   clear hy313
   have H' := Aside0.mk H
   clear H
   have p308 : 0 ≤ (x4_1 : Int) := dA_
   have q308 : x4_1 < (l0.length : Int) := dA_
   obtain ⟨ad308, e308, hx308_0, hx308_1, hx308_2, hx308_3⟩ := at_T70 HR0.out x4_1 p308 q308
   cases e308
   replace hx308_0 := hX_ HB hx308_0
   replace hx308_1 := hX_ HB hx308_1
   replace hx308_2 := hX_ HB hx308_2
   replace hx308_3 := hX_ HB hx308_3
   replace p308 := eq_true p308
   replace q308 := eq_true q308
   go_wp2_with (first | ((with_reducible refine gate_callee (f := 47) rfl ?_); refine gL_ (some 20) Tryz.func47 #[.agg #[.string ((rd_T70 l0 x4_1).f0), .int .i64 ((rd_T70 l0 x4_1).f1), .string ((rd_T70 l0 x4_1).f2), .bool ((rd_T70 l0 x4_1).f3)]] ?_; (with_reducible refine (laws_toEntry.calls ((rd_T70 l0 x4_1).f0) ((rd_T70 l0 x4_1).f1) ((rd_T70 l0 x4_1).f2) ((rd_T70 l0 x4_1).f3) t309 t310 t311 t312 _ A8.out).mono ?_); rintro e w11 ⟨rfl, hb⟩; refine ⟨_, rfl, ?_⟩; replace HO_3 := Aside0.mk (Kd.R_below (kr_ HO_3) hb); replace HB := Aside0.mk (below_step (bw_ HB) hb); (try clear hb); (try clear hb2); (try clear hk); (try clear hi); have p10 : 0 ≤ (x4_1 : Int) := dA_; have q10 : (x4_1 : Int) < ((x3_1.length : Int) : Int) := dA_; obtain ⟨go10, co10, eo10, gb10, gl10, cl10, HG10⟩ := Kd.R_form HO_3.out (by omega); (first | cases eo10 | (injection eo10 with ea_ en_ ec_; (first | subst ea_ | (injection ea_ with ea_; subst ea_)); subst ec_; clear en_)); have GB10 := Aside0.mk gb10; have GG10 := Aside0.mk HG10; clear gb10 gl10 HG10; obtain ⟨ce10, hcl10, hM10, hcc10, hfr10⟩ := Kd.R_elem HO_3.out z57 (x4_1 : Int) p10 q10; obtain rfl := k57_openM hM10; have hx10_0 : w11.cell? ⟨go10, (x4_1 : Int).toNat * 4, none⟩ = some (.string ((rd_T57 x3_1 x4_1).f0)) := hcc10 0 _ rfl; have hx10_1 : w11.cell? ⟨go10, (x4_1 : Int).toNat * 4 + 1, none⟩ = some (.int .i64 ((rd_T57 x3_1 x4_1).f1)) := hcc10 1 _ rfl; have hx10_2 : w11.cell? ⟨go10, (x4_1 : Int).toNat * 4 + 2, none⟩ = some (.string ((rd_T57 x3_1 x4_1).f2)) := hcc10 2 _ rfl; have hx10_3 : w11.cell? ⟨go10, (x4_1 : Int).toNat * 4 + 3, none⟩ = some (.bool ((rd_T57 x3_1 x4_1).f3)) := hcc10 3 _ rfl; have hf10_0 : w11.frozen? ⟨go10, (x4_1 : Int).toNat * 4, none⟩ = false := hfr10 0; have hf10_1 : w11.frozen? ⟨go10, (x4_1 : Int).toNat * 4 + 1, none⟩ = false := hfr10 1; have hf10_2 : w11.frozen? ⟨go10, (x4_1 : Int).toNat * 4 + 2, none⟩ = false := hfr10 2; have hf10_3 : w11.frozen? ⟨go10, (x4_1 : Int).toNat * 4 + 3, none⟩ = false := hfr10 3; clear hcl10 hcc10 hfr10; (try clear hM10); replace p10 := eq_true p10; replace q10 := eq_true q10; have HX12 := Aside0.mk (show Kd.R k57 57 w11 w.heap.size (fun _ => True) (.slice (some ⟨go10, 0, none⟩) x3_1.length co10) x3_1 from (kr_ HO_3)); obtain ⟨ce12, hcl12, hM12, hcc12, hfr12⟩ := Kd.R_elem HX12.out z57 (x4_1 : Int) (dA_) (by have h_ : (x4_1 : Int) < ((x3_1.length : Int) : Int) := dA_; first | exact h_ | (have e_ := (Kd.R_reads' HO_3.out).1; omega) | simpa using h_); obtain rfl := k57_openM hM12; have HP12 := Kd.R_seg HX12.out (x4_1 : Int) (dA_) (by have h_ : (x4_1 : Int) < ((x3_1.length : Int) : Int) := dA_; first | exact h_ | (have e_ := (Kd.R_reads' HO_3.out).1; omega) | simpa using h_) (seg := [.string t309, .int .i64 t310, .string t311, .bool t312]) (j := 0) hcl12 hcc12 (show 4 ≤ 4 from by decide) (x' := (⟨t309, t310, t311, t312⟩ : S57)) (k57_mkM _ _ _ (⟨t309, t310, t311, t312⟩ : S57) ) (fun _ hk => hk); have hx12_0 := hcc12 0 _ rfl; (try simp only [show (k57).sz = 4 from rfl, Nat.mul_one, Nat.add_zero] at hx12_0); have hf12_0 := hfr12 0; (try simp only [show (k57).sz = 4 from rfl, Nat.mul_one, Nat.add_zero] at hf12_0); have hx12_1 := hcc12 1 _ rfl; (try simp only [show (k57).sz = 4 from rfl, Nat.mul_one, Nat.add_zero] at hx12_1); have hf12_1 := hfr12 1; (try simp only [show (k57).sz = 4 from rfl, Nat.mul_one, Nat.add_zero] at hf12_1); have hx12_2 := hcc12 2 _ rfl; (try simp only [show (k57).sz = 4 from rfl, Nat.mul_one, Nat.add_zero] at hx12_2); have hf12_2 := hfr12 2; (try simp only [show (k57).sz = 4 from rfl, Nat.mul_one, Nat.add_zero] at hf12_2); have hx12_3 := hcc12 3 _ rfl; (try simp only [show (k57).sz = 4 from rfl, Nat.mul_one, Nat.add_zero] at hx12_3); have hf12_3 := hfr12 3; (try simp only [show (k57).sz = 4 from rfl, Nat.mul_one, Nat.add_zero] at hf12_3); clear hcl12 hcc12 hfr12; (try clear hM12)) | ((with_reducible refine gate_store (t := 57) (p := 21) rfl ?_); refine store_event (t := 57) (p := 21) (v := ?vo_w13) (w1 := ((((w11.setCell ⟨go10, (x4_1 : Int).toNat * 4, none⟩ (.string t309)).setCell ⟨go10, (x4_1 : Int).toNat * 4 + 1, none⟩ (.int .i64 t310)).setCell ⟨go10, (x4_1 : Int).toNat * 4 + 2, none⟩ (.string t311)).setCell ⟨go10, (x4_1 : Int).toNat * 4 + 3, none⟩ (.bool t312))) ?hg ?ho ?hn ?hr ?_; (case ho => rfl); (case hg => rfl); (case hn => rfl); (case hr => first | (go_simp; done) | (go_simp; rfl)); intro w13 hw; have hg : w11.grownBy w13 (some go10) := (by rw [hw]; exact HP12.2); have hp_ : Kd.R k57 57 w13 w.heap.size (fun _ => True) (.slice (some ⟨go10, 0, none⟩) x3_1.length co10) y313 := (by rw [hw, Ny313.out]; exact HP12.1); clear HP12; replace HO_3 := Aside0.mk (hp_); replace HB := Aside0.mk ((by rw [hw]; exact below_set (below_set (below_set (below_set (HB.out) GB10.out) GB10.out) GB10.out) GB10.out : Below w.heap.size w w13)); clear hg hw hp_))
   go_roundg k1
   case measure => have := HK1.out; omega
   case rel => exact ⟨(y313), (wrap64 (x4_1 + 1)), (by first | rfl | (simp; done) | (simp [*]; done)), H', ⟨by have := HK1.out; omega⟩, ⟨kr_ HO_3⟩, ⟨bw_ HB⟩⟩}
   {
   rw [if_neg c9] at H
   exact absurd H (by simp)}}
   {
   rw [if_neg c7] at H
   exact absurd H (by simp)}}
   {
   rw [if_neg c6] at H
   have c6b0 := decide_eq_false c6
   clear c6
   obtain rfl := Option.some.inj H
   go_wp2
   go_ret
   exact ⟨_, eR_, kr_ HO_3, bw_ HB⟩}}
 {
 rw [if_neg c3] at H
 exact absurd H (by simp)}}
 {
 rw [if_neg c2] at H
 exact absurd H (by simp)
}
def laws_toStringS.l0 : Nat → List ByteArray → List ByteArray → Int → Option (List ByteArray)
 | 0, _, _, _ => none
 | k + 1, x0, x3, x4 => if x4 < (x0.length : Int) then (if 0 ≤ x4 then (if x4 < (x3.length : Int) then (laws_toStringS.l0 k x0 (x3.set (x4 : Int).toNat (rdOf ByteArray.empty x0 x4)) (wrap64 (x4 + 1))) else (none)) else (none)) else (some x3)
def laws_toStringS.f (k : Nat) (l0 : List ByteArray) : Option (List ByteArray) := if 0 ≤ (l0.length : Int) then (if ((l0.length : Int) : Int).toNat ≤ 17592186044416 then (laws_toStringS.l0 k l0 (List.replicate ((l0.length : Int) : Int).toNat (⟨#[]⟩ : ByteArray)) 0) else (none)) else (none)
set_option maxHeartbeats 8000000 in
set_option maxRecDepth 100000 in
theorem laws_toStringS.calls (k : Nat) (A0 : Option Addr) (c0 : Nat) (l0 : List ByteArray) (r : List ByteArray) (w : World) (hr0 : Kd.C Kd.string w A0 l0.length l0) (hc0 : l0.length ≤ c0) (h : laws_toStringS.f k l0 = some r) :
 Calls Tryz.prog 28 #[.slice A0 l0.length c0] w fun e w' => ∃ v0_ : Value, e = .returned (v0_) ∧ Kd.R Kd.string 9 w' w.heap.size (fun _ => True) v0_ r ∧ Below w.heap.size w w' := by
 have HR0 := Aside0.mk hr0
 have HC0 := Aside0.mk hc0
 clear hr0 hc0
 have HB := Aside0.mk (Below.refl w.heap.size w)
 have H : (if 0 ≤ (l0.length : Int) then (if ((l0.length : Int) : Int).toNat ≤ 17592186044416 then (laws_toStringS.l0 k l0 (List.replicate ((l0.length : Int) : Int).toNat (⟨#[]⟩ : ByteArray)) 0) else (none)) else (none)) = some r := h
 clear h
 by_cases c2 : 0 ≤ (l0.length : Int)
 {
 rw [if_pos c2] at H
 have c2b0 := eq_true c2
 have c2b1 := decide_eq_true c2
 clear c2
 by_cases c3 : ((l0.length : Int) : Int).toNat ≤ 17592186044416
 {
 rw [if_pos c3] at H
 have c3b0 := eq_true c3
 have c3b1 := decide_eq_true c3
 clear c3
 obtain ⟨y314, hy314⟩ : ∃ y_ : List ByteArray, y_ = (List.replicate ((l0.length : Int) : Int).toNat (⟨#[]⟩ : ByteArray)) := ⟨_, rfl⟩
 replace H : (laws_toStringS.l0 k l0 y314 0) = some r := by first | (rw [hy314]; with_reducible exact H) | (have H2_ := (Option.bind_some _ _).symm.trans H; rw [hy314]; with_reducible exact H2_) | (have H2_ := (Option.bind_some _ _).symm.trans H; with_reducible exact H2_) | with_reducible exact H | (rw [hy314]; exact H) | exact H
 have Ny314 := Aside0.mk hy314
 clear hy314
 have H' := Aside0.mk H
 clear H
 go_enter Tryz.func28, Tryz.ntmps28
 go_wp2_with (first | ((with_reducible refine gate_dst (N := 7) rfl ?_); refine Kd.R_make Kd.string _ 9 rfl (N := 7) rfl 29 _ _ rfl (l0.length : Int) rfl rfl Tryz.underlying29 (.string ⟨#[]⟩) 16 info9 rfl (by decide) (by omega) (⟨#[]⟩ : ByteArray) (ok := fun _ => True) (okp := fun _ => True) rfl (fun _ hk => hk) trivial (dA_) (Nat.le_trans (Nat.mul_le_mul_right _ (dA_ : (l0.length : Int).toNat ≤ 17592186044416)) (by omega)) (Below.refl _ _) (Nat.le_refl _) ?_; intro v315 w4 ho5 hb hg_ hnew_; clear hg_ hnew_; (first | rw [← Ny314.out] at ho5 | (simp only [Int.reduceToNat] at ho5; rw [← Ny314.out] at ho5)); have HO316 := Aside0.mk (Kd.R_lower ho5 (below_size (bw_ HB))); replace HB := Aside0.mk (below_step (bw_ HB) hb); clear hb ho5))
 go_loopg [4] k (fun kq v4 w' => ∃ (x3_1 : List ByteArray) (x4_1 : Int), v4 = .int .i64 x4_1 ∧ Aside0 (laws_toStringS.l0 kq l0 x3_1 x4_1 = some r) ∧ Aside0 (kq ≤ k) ∧ Aside0 (Kd.R Kd.string 9 w' w.heap.size (fun _ => True) v315 x3_1) ∧ Aside0 (Below w.heap.size w w'))
 case atStart => exact ⟨(y314), (0), (by first | rfl | (simp; done) | (simp [*]; done)), H', ⟨Nat.le_refl _⟩, ⟨kr_ HO316⟩, ⟨bw_ HB⟩⟩
 case round =>
  clear H'
  try clear c2
  try clear c2b0
  try clear c2b1
  try clear p2
  try clear c3
  try clear c3b0
  try clear c3b1
  obtain ⟨x3_1, x4_1, rfl, HA, HK1, HO_3, HB⟩ := hrel
  cases gk with
  | zero => exact absurd HA.out (by simp [laws_toStringS.l0])
  | succ k1 =>
   have H := HA.out
   clear HA
   simp only [laws_toStringS.l0] at H
   by_cases c6 : x4_1 < (l0.length : Int)
   {
   rw [if_pos c6] at H
   have c6b0 := decide_eq_true c6
   clear c6
   by_cases c7 : 0 ≤ x4_1
   {
   rw [if_pos c7] at H
   have c7b0 := decide_eq_true c7
   clear c7
   by_cases c8 : x4_1 < (x3_1.length : Int)
   {
   rw [if_pos c8] at H
   have c8b0 := decide_eq_true c8
   clear c8
   obtain ⟨y318, hy318⟩ : ∃ y_ : List ByteArray, y_ = (x3_1.set (x4_1 : Int).toNat (rdOf ByteArray.empty l0 x4_1)) := ⟨_, rfl⟩
   replace H : (laws_toStringS.l0 k1 l0 y318 (wrap64 (x4_1 + 1))) = some r := by first | (rw [hy318]; with_reducible exact H) | (have H2_ := (Option.bind_some _ _).symm.trans H; rw [hy318]; with_reducible exact H2_) | (have H2_ := (Option.bind_some _ _).symm.trans H; with_reducible exact H2_) | with_reducible exact H | (rw [hy318]; exact H) | exact H
   have Ny318 := Aside0.mk hy318
   clear hy318
   have H' := Aside0.mk H
   clear H
   have p317 : 0 ≤ (x4_1 : Int) := dA_
   have q317 : x4_1 < (l0.length : Int) := dA_
   obtain ⟨ad317, e317, hx317_0⟩ := Kd.at_string HR0.out x4_1 p317 q317
   cases e317
   replace hx317_0 := hX_ HB hx317_0
   replace p317 := eq_true p317
   replace q317 := eq_true q317
   have p9 : 0 ≤ (x4_1 : Int) := dA_
   have q9 : (x4_1 : Int) < ((x3_1.length : Int) : Int) := dA_
   obtain ⟨go9, co9, eo9, gb9, gl9, cl9, HG9⟩ := Kd.R_form HO_3.out (by omega)
   (first | cases eo9 | (injection eo9 with ea_ en_ ec_; (first | subst ea_ | (injection ea_ with ea_; subst ea_)); subst ec_; clear en_))
   have GB9 := Aside0.mk gb9
   have GG9 := Aside0.mk HG9
   clear gb9 gl9 HG9
   obtain ⟨hx9_0, hf9_0⟩ := Kd.R_celln (⟨#[]⟩ : ByteArray) HO_3.out (x4_1 : Int) p9 q9
   replace p9 := eq_true p9
   replace q9 := eq_true q9
   have HP10 := Kd.R_putg HO_3.out (x4_1 : Int) (rdOf ByteArray.empty l0 x4_1)
   go_wp2_with (first | ((with_reducible refine gate_store (t := 9) (p := 20) rfl ?_); refine store_event (t := 9) (p := 20) (v := ?vo_w11) (w1 := (wr.setCell ⟨go9, (x4_1 : Int).toNat, none⟩ (.string (rdOf ByteArray.empty l0 x4_1)))) ?hg ?ho ?hn ?hr ?_; (case ho => rfl); (case hg => rfl); (case hn => rfl); (case hr => first | (go_simp; done) | (go_simp; rfl)); intro w11 hw; have hg : wr.grownBy w11 (some go9) := (by rw [hw]; exact HP10.2); have hp_ : Kd.R Kd.string 9 w11 w.heap.size (fun _ => True) (.slice (some ⟨go9, 0, none⟩) x3_1.length co9) y318 := (by rw [hw, Ny318.out]; exact HP10.1); clear HP10; replace HO_3 := Aside0.mk (hp_); replace HB := Aside0.mk ((by rw [hw]; exact below_set (HB.out) GB9.out : Below w.heap.size w w11)); clear hg hw hp_))
   go_roundg k1
   case measure => have := HK1.out; omega
   case rel => exact ⟨(y318), (wrap64 (x4_1 + 1)), (by first | rfl | (simp; done) | (simp [*]; done)), H', ⟨by have := HK1.out; omega⟩, ⟨kr_ HO_3⟩, ⟨bw_ HB⟩⟩}
   {
   rw [if_neg c8] at H
   exact absurd H (by simp)}}
   {
   rw [if_neg c7] at H
   exact absurd H (by simp)}}
   {
   rw [if_neg c6] at H
   have c6b0 := decide_eq_false c6
   clear c6
   obtain rfl := Option.some.inj H
   go_wp2
   go_ret
   exact ⟨_, eR_, kr_ HO_3, bw_ HB⟩}}
 {
 rw [if_neg c3] at H
 exact absurd H (by simp)}}
 {
 rw [if_neg c2] at H
 exact absurd H (by simp)
}
def laws_toItem.f (k : Nat) (a0_0 : ByteArray) (a0_1 : ByteArray) (l0_2 : List ByteArray) (a0_3 : ByteArray) (l0_4 : List (S70)) : Option (ByteArray × ByteArray × List ByteArray × ByteArray × (List (S57))) := (laws_toStringS.f k l0_2).bind fun t322 => ((laws_toEntryS.f k l0_4).bind fun t325 => (some (a0_0, a0_1, t322, a0_3, t325)))
set_option maxHeartbeats 8000000 in
set_option maxRecDepth 100000 in
theorem laws_toItem.calls (k : Nat) (a0_0 : ByteArray) (a0_1 : ByteArray) (A0_2 : Option Addr) (c0_2 : Nat) (l0_2 : List ByteArray) (a0_3 : ByteArray) (A0_4 : Option Addr) (c0_4 : Nat) (l0_4 : List (S70)) (r1 : ByteArray) (r2 : ByteArray) (r3 : List ByteArray) (r4 : ByteArray) (r5 : List (S57)) (w : World) (hr0_2 : Kd.C Kd.string w A0_2 l0_2.length l0_2) (hc0_2 : l0_2.length ≤ c0_2) (hr0_4 : Kd.C k70 w A0_4 l0_4.length l0_4) (hc0_4 : l0_4.length ≤ c0_4) (h : laws_toItem.f k a0_0 a0_1 l0_2 a0_3 l0_4 = some (r1, r2, r3, r4, r5)) :
 Calls Tryz.prog 34 #[.agg #[.string a0_0, .string a0_1, .slice A0_2 l0_2.length c0_2, .string a0_3, .slice A0_4 l0_4.length c0_4]] w fun e w' => ∃ v2_ v4_ : Value, e = .returned (.agg #[.string r1, .string r2, v2_, .string r4, v4_]) ∧ Kd.R Kd.string 9 w' w.heap.size (fun _ => True) v2_ r3 ∧ Kd.R k57 57 w' w.heap.size (fun _ => True) v4_ r5 ∧ Below w.heap.size w w' := by
 have hu52 := Tryz.underlying52
 have hu55 := Tryz.underlying55
 have HR0_2 := Aside0.mk hr0_2
 have HC0_2 := Aside0.mk hc0_2
 clear hr0_2 hc0_2
 have HR0_4 := Aside0.mk hr0_4
 have HC0_4 := Aside0.mk hc0_4
 clear hr0_4 hc0_4
 have HB := Aside0.mk (Below.refl w.heap.size w)
 have H : ((laws_toStringS.f k l0_2).bind fun t322 => ((laws_toEntryS.f k l0_4).bind fun t325 => (some (a0_0, a0_1, t322, a0_3, t325)))) = some (r1, r2, r3, r4, r5) := h
 clear h
 replace H := Option.bind_eq_some_iff.mp H
 obtain ⟨t322, A20, H⟩ := H
 have A2 := Aside0.mk A20
 clear A20
 replace H := Option.bind_eq_some_iff.mp H
 obtain ⟨t325, A30, H⟩ := H
 have A3 := Aside0.mk A30
 clear A30
 simp only [Option.some.injEq, Prod.mk.injEq] at H
 obtain ⟨rfl, rfl, rfl, rfl, rfl⟩ := H
 go_enter Tryz.func34, Tryz.ntmps34
 go_wp2_with (first | ((with_reducible refine gate_dst (N := 1) rfl ?_); refine bE_ 1 #[.string a0_0, .string a0_1, .slice A0_2 l0_2.length c0_2, .string a0_3, .slice A0_4 l0_4.length c0_4] 52 ?_; intro gb319 hg w4 hbox hb; have BK319 := Aside0.mk (hbox); have GW319 := Aside0.mk (ge_ hg (bw_ HB)); have GE319 := Aside0.mk (ge_ hg (bw_ HB)); replace HB := Aside0.mk (below_step (bw_ HB) hb); clear hb hbox hg) | ((with_reducible refine gate_dst (N := 2) rfl ?_); refine bE_ 2 #[.string (⟨#[]⟩ : ByteArray), .string (⟨#[]⟩ : ByteArray), .slice none 0 0, .string (⟨#[]⟩ : ByteArray), .slice none 0 0] 55 ?_; intro gb320 hg w5 hbox hb; have BK320 := Aside0.mk (hbox); have GW320 := Aside0.mk (ge_ hg (bw1_ HB GE319)); have GE320 := Aside0.mk (ge_ hg (bw1_ HB GE319)); replace HB := Aside0.mk (below_step (bw1_ HB GE319) hb); have NB319_320 := Aside0.mk ((by rw [hg]; exact Nat.ne_of_lt (blk_lt (bk_ BK319)) : gb319 ≠ gb320)); have NB320_319 := Aside0.mk ((by rw [hg]; exact Nat.ne_of_gt (blk_lt (bk_ BK319)) : gb320 ≠ gb319)); replace BK319 := Aside0.mk (blk_below (bk_ BK319) hb); clear hb hbox hg) | ((with_reducible refine gate_dst (N := 3) rfl ?_); refine bE_ 3 #[.string (⟨#[]⟩ : ByteArray), .string (⟨#[]⟩ : ByteArray), .slice none 0 0, .string (⟨#[]⟩ : ByteArray), .slice none 0 0] 55 ?_; intro gb321 hg w6 hbox hb; have BK321 := Aside0.mk (hbox); have GW321 := Aside0.mk (ge_ hg (bw2_ HB GE319 GE320)); have GE321 := Aside0.mk (ge_ hg (bw2_ HB GE319 GE320)); replace HB := Aside0.mk (below_step (bw2_ HB GE319 GE320) hb); have NB319_321 := Aside0.mk ((by rw [hg]; exact Nat.ne_of_lt (blk_lt (bk_ BK319)) : gb319 ≠ gb321)); have NB321_319 := Aside0.mk ((by rw [hg]; exact Nat.ne_of_gt (blk_lt (bk_ BK319)) : gb321 ≠ gb319)); replace BK319 := Aside0.mk (blk_below (bk_ BK319) hb); have NB320_321 := Aside0.mk ((by rw [hg]; exact Nat.ne_of_lt (blk_lt (bk_ BK320)) : gb320 ≠ gb321)); have NB321_320 := Aside0.mk ((by rw [hg]; exact Nat.ne_of_gt (blk_lt (bk_ BK320)) : gb321 ≠ gb320)); replace BK320 := Aside0.mk (blk_below (bk_ BK320) hb); clear hb hbox hg; have hnb7 := NB319_320.out; have hnc7 := NB320_319.out; have hnb8 := NB319_321.out; have hnc8 := NB321_319.out; have hcz9_0 := cz_ BK319 0 (.string a0_0); have hcz9_1 := cz_ BK319 1 (.string a0_1); have hcz9_2 := cz_ BK319 2 (.slice A0_2 l0_2.length c0_2); have hcz9_3 := cz_ BK319 3 (.string a0_3); have hcz9_4 := cz_ BK319 4 (.slice A0_4 l0_4.length c0_4); have hfz9_0 := blk_frozen BK319.out 0; have hfz9_1 := blk_frozen BK319.out 1; have hfz9_2 := blk_frozen BK319.out 2; have hfz9_3 := blk_frozen BK319.out 3; have hfz9_4 := blk_frozen BK319.out 4; have hnb10 := NB321_320.out; have hnc10 := NB320_321.out; have hcz11_0 := cz_ BK321 0 (.string (⟨#[]⟩ : ByteArray)); have hcz11_1 := cz_ BK321 1 (.string (⟨#[]⟩ : ByteArray)); have hcz11_2 := cz_ BK321 2 (.slice none 0 0); have hcz11_3 := cz_ BK321 3 (.string (⟨#[]⟩ : ByteArray)); have hcz11_4 := cz_ BK321 4 (.slice none 0 0); have hfz11_0 := blk_frozen BK321.out 0; have hfz11_1 := blk_frozen BK321.out 1; have hfz11_2 := blk_frozen BK321.out 2; have hfz11_3 := blk_frozen BK321.out 3; have hfz11_4 := blk_frozen BK321.out 4) | ((with_reducible refine gate_callee (f := 28) rfl ?_); refine gL_ (some 12) Tryz.func28 #[.slice A0_2 l0_2.length c0_2] ?_; (with_reducible refine (laws_toStringS.calls k _ _ l0_2 t322 _ ?side1 ?side2 A2.out).mono ?_); (case side1 => exact Kd.C_below HR0_2.out (by repeat (first | (with_reducible first | exact HB.out | apply below_alloc | apply pw_below_drewN | apply below_drew1 | refine below_set ?_ GE319.out | refine below_set ?_ GE320.out | refine below_set ?_ GE321.out) | exact HB.out))); (case side2 => exact HC0_2.out); rintro e w12 ⟨v323, rfl, ho0, hb⟩; refine ⟨_, rfl, ?_⟩; have HO324 := Aside0.mk (Kd.R_lower ho0 (below_size (by repeat (first | (with_reducible first | exact HB.out | apply below_alloc | apply pw_below_drewN | apply below_drew1 | refine below_set ?_ GE319.out | refine below_set ?_ GE320.out | refine below_set ?_ GE321.out) | exact HB.out)))); replace BK319 := Aside0.mk (blk_below (g := gb319) (o := .cells #[.string a0_0, .string a0_1, .slice A0_2 l0_2.length c0_2, .string a0_3, .slice A0_4 l0_4.length c0_4] 52 (0, 0)) (by (with_reducible repeat (first | refine blk_drewN ?_ _ | refine blk_drew ?_ | refine blk_alloc ?_ _)); refine blk_far ?_ NB319_321.out _; (with_reducible repeat (first | refine blk_drewN ?_ _ | refine blk_drew ?_ | refine blk_alloc ?_ _)); refine blk_far ?_ NB319_321.out _; (with_reducible repeat (first | refine blk_drewN ?_ _ | refine blk_drew ?_ | refine blk_alloc ?_ _)); exact BK319.out) hb); replace BK320 := Aside0.mk (blk_below (g := gb320) (o := .cells #[.string (⟨#[]⟩ : ByteArray), .string (⟨#[]⟩ : ByteArray), .slice none 0 0, .string (⟨#[]⟩ : ByteArray), .slice none 0 0] 55 (0, 0)) (by (with_reducible repeat (first | refine blk_drewN ?_ _ | refine blk_drew ?_ | refine blk_alloc ?_ _)); refine blk_far ?_ NB320_321.out _; (with_reducible repeat (first | refine blk_drewN ?_ _ | refine blk_drew ?_ | refine blk_alloc ?_ _)); refine blk_far ?_ NB320_321.out _; (with_reducible repeat (first | refine blk_drewN ?_ _ | refine blk_drew ?_ | refine blk_alloc ?_ _)); exact BK320.out) hb); replace BK321 := Aside0.mk (blk_below (g := gb321) (o := .cells #[.string a0_0, .string a0_1, .slice none 0 0, .string (⟨#[]⟩ : ByteArray), .slice none 0 0] 55 (0, 0)) (by (with_reducible repeat (first | refine blk_drewN ?_ _ | refine blk_drew ?_ | refine blk_alloc ?_ _)); refine blk_put (cs := #[.string a0_0, .string (⟨#[]⟩ : ByteArray), .slice none 0 0, .string (⟨#[]⟩ : ByteArray), .slice none 0 0]) ?_ 1 _ rfl; (with_reducible repeat (first | refine blk_drewN ?_ _ | refine blk_drew ?_ | refine blk_alloc ?_ _)); refine blk_put (cs := #[.string (⟨#[]⟩ : ByteArray), .string (⟨#[]⟩ : ByteArray), .slice none 0 0, .string (⟨#[]⟩ : ByteArray), .slice none 0 0]) ?_ 0 _ rfl; (with_reducible repeat (first | refine blk_drewN ?_ _ | refine blk_drew ?_ | refine blk_alloc ?_ _)); exact BK321.out) hb); replace HB := Aside0.mk (below_step (by repeat (first | (with_reducible first | exact HB.out | apply below_alloc | apply pw_below_drewN | apply below_drew1 | refine below_set ?_ GE319.out | refine below_set ?_ GE320.out | refine below_set ?_ GE321.out) | exact HB.out)) hb); (try clear hb); (try clear hb2); (try clear hk); (try clear hi); (try clear ho0); obtain ⟨Ao13, co13, eo13⟩ := Kd.R_slice HO324.out; subst eo13; have hcz14_0 := cz_ BK321 0 (.string a0_0); have hcz14_1 := cz_ BK321 1 (.string a0_1); have hcz14_2 := cz_ BK321 2 (.slice none 0 0); have hcz14_3 := cz_ BK321 3 (.string (⟨#[]⟩ : ByteArray)); have hcz14_4 := cz_ BK321 4 (.slice none 0 0); have hfz14_0 := blk_frozen BK321.out 0; have hfz14_1 := blk_frozen BK321.out 1; have hfz14_2 := blk_frozen BK321.out 2; have hfz14_3 := blk_frozen BK321.out 3; have hfz14_4 := blk_frozen BK321.out 4; have hcz15_0 := cz_ BK319 0 (.string a0_0); have hcz15_1 := cz_ BK319 1 (.string a0_1); have hcz15_2 := cz_ BK319 2 (.slice A0_2 l0_2.length c0_2); have hcz15_3 := cz_ BK319 3 (.string a0_3); have hcz15_4 := cz_ BK319 4 (.slice A0_4 l0_4.length c0_4); have hfz15_0 := blk_frozen BK319.out 0; have hfz15_1 := blk_frozen BK319.out 1; have hfz15_2 := blk_frozen BK319.out 2; have hfz15_3 := blk_frozen BK319.out 3; have hfz15_4 := blk_frozen BK319.out 4) | ((with_reducible refine gate_callee (f := 21) rfl ?_); refine gL_ (some 19) Tryz.func21 #[.slice A0_4 l0_4.length c0_4] ?_; (with_reducible refine (laws_toEntryS.calls k _ _ l0_4 t325 _ ?side1 ?side2 A3.out).mono ?_); (case side1 => exact Kd.C_below HR0_4.out (by repeat (first | (with_reducible first | exact HB.out | apply below_alloc | apply pw_below_drewN | apply below_drew1 | refine below_set ?_ GE319.out | refine below_set ?_ GE320.out | refine below_set ?_ GE321.out) | exact HB.out))); (case side2 => exact HC0_4.out); rintro e w16 ⟨v326, rfl, ho0, hb⟩; refine ⟨_, rfl, ?_⟩; replace HO324 := Aside0.mk (Kd.R_below (by (with_reducible repeat (first | apply Kd.R_alloc | apply Kd.R_drewN | apply Kd.R_drew)); exact (Kd.R_mono (Kd.R_far (p := ⟨gb321, 3, none⟩) (Kd.R_far (p := ⟨gb321, 2, none⟩) (Kd.R_types HO324.out BK321.out (by decide)) (fun _ hk => hk.2) (.slice Ao13 t322.length co13)) (fun _ hk => hk.2) (.string a0_3)) (fun _ h_ => h_.1))) hb); have HO327 := Aside0.mk (Kd.R_lower ho0 (below_size (by repeat (first | (with_reducible first | exact HB.out | apply below_alloc | apply pw_below_drewN | apply below_drew1 | refine below_set ?_ GE319.out | refine below_set ?_ GE320.out | refine below_set ?_ GE321.out) | exact HB.out)))); replace BK319 := Aside0.mk (blk_below (g := gb319) (o := .cells #[.string a0_0, .string a0_1, .slice A0_2 l0_2.length c0_2, .string a0_3, .slice A0_4 l0_4.length c0_4] 52 (0, 0)) (by (with_reducible repeat (first | refine blk_drewN ?_ _ | refine blk_drew ?_ | refine blk_alloc ?_ _)); refine blk_far ?_ NB319_321.out _; (with_reducible repeat (first | refine blk_drewN ?_ _ | refine blk_drew ?_ | refine blk_alloc ?_ _)); refine blk_far ?_ NB319_321.out _; (with_reducible repeat (first | refine blk_drewN ?_ _ | refine blk_drew ?_ | refine blk_alloc ?_ _)); exact BK319.out) hb); replace BK320 := Aside0.mk (blk_below (g := gb320) (o := .cells #[.string (⟨#[]⟩ : ByteArray), .string (⟨#[]⟩ : ByteArray), .slice none 0 0, .string (⟨#[]⟩ : ByteArray), .slice none 0 0] 55 (0, 0)) (by (with_reducible repeat (first | refine blk_drewN ?_ _ | refine blk_drew ?_ | refine blk_alloc ?_ _)); refine blk_far ?_ NB320_321.out _; (with_reducible repeat (first | refine blk_drewN ?_ _ | refine blk_drew ?_ | refine blk_alloc ?_ _)); refine blk_far ?_ NB320_321.out _; (with_reducible repeat (first | refine blk_drewN ?_ _ | refine blk_drew ?_ | refine blk_alloc ?_ _)); exact BK320.out) hb); replace BK321 := Aside0.mk (blk_below (g := gb321) (o := .cells #[.string a0_0, .string a0_1, .slice Ao13 t322.length co13, .string a0_3, .slice none 0 0] 55 (0, 0)) (by (with_reducible repeat (first | refine blk_drewN ?_ _ | refine blk_drew ?_ | refine blk_alloc ?_ _)); refine blk_put (cs := #[.string a0_0, .string a0_1, .slice Ao13 t322.length co13, .string (⟨#[]⟩ : ByteArray), .slice none 0 0]) ?_ 3 _ rfl; (with_reducible repeat (first | refine blk_drewN ?_ _ | refine blk_drew ?_ | refine blk_alloc ?_ _)); refine blk_put (cs := #[.string a0_0, .string a0_1, .slice none 0 0, .string (⟨#[]⟩ : ByteArray), .slice none 0 0]) ?_ 2 _ rfl; (with_reducible repeat (first | refine blk_drewN ?_ _ | refine blk_drew ?_ | refine blk_alloc ?_ _)); exact BK321.out) hb); replace HB := Aside0.mk (below_step (by repeat (first | (with_reducible first | exact HB.out | apply below_alloc | apply pw_below_drewN | apply below_drew1 | refine below_set ?_ GE319.out | refine below_set ?_ GE320.out | refine below_set ?_ GE321.out) | exact HB.out)) hb); (try clear hb); (try clear hb2); (try clear hk); (try clear hi); (try clear ho0); obtain ⟨Ao17, co17, eo17⟩ := Kd.R_slice HO327.out; subst eo17; have hcz18_0 := cz_ BK321 0 (.string a0_0); have hcz18_1 := cz_ BK321 1 (.string a0_1); have hcz18_2 := cz_ BK321 2 (.slice Ao13 t322.length co13); have hcz18_3 := cz_ BK321 3 (.string a0_3); have hcz18_4 := cz_ BK321 4 (.slice none 0 0); have hfz18_0 := blk_frozen BK321.out 0; have hfz18_1 := blk_frozen BK321.out 1; have hfz18_2 := blk_frozen BK321.out 2; have hfz18_3 := blk_frozen BK321.out 3; have hfz18_4 := blk_frozen BK321.out 4; have hcz19_0 := cz_ BK320 0 (.string (⟨#[]⟩ : ByteArray)); have hcz19_1 := cz_ BK320 1 (.string (⟨#[]⟩ : ByteArray)); have hcz19_2 := cz_ BK320 2 (.slice none 0 0); have hcz19_3 := cz_ BK320 3 (.string (⟨#[]⟩ : ByteArray)); have hcz19_4 := cz_ BK320 4 (.slice none 0 0); have hfz19_0 := blk_frozen BK320.out 0; have hfz19_1 := blk_frozen BK320.out 1; have hfz19_2 := blk_frozen BK320.out 2; have hfz19_3 := blk_frozen BK320.out 3; have hfz19_4 := blk_frozen BK320.out 4))
 refine bodyPost_ret (results_cell_row rfl _ _ gb320 55 #[.string a0_0, .string a0_1, .slice Ao13 t322.length co13, .string a0_3, .slice Ao17 t325.length co17] (0, 0) _ rfl (by (with_reducible repeat (first | refine blk_drewN ?_ _ | refine blk_drew ?_ | refine blk_alloc ?_ _)); refine blk_put (cs := #[.string a0_0, .string a0_1, .slice Ao13 t322.length co13, .string a0_3, .slice none 0 0]) ?_ 4 _ rfl; (with_reducible repeat (first | refine blk_drewN ?_ _ | refine blk_drew ?_ | refine blk_alloc ?_ _)); refine blk_put (cs := #[.string a0_0, .string a0_1, .slice Ao13 t322.length co13, .string (⟨#[]⟩ : ByteArray), .slice none 0 0]) ?_ 3 _ rfl; (with_reducible repeat (first | refine blk_drewN ?_ _ | refine blk_drew ?_ | refine blk_alloc ?_ _)); refine blk_put (cs := #[.string a0_0, .string a0_1, .slice none 0 0, .string (⟨#[]⟩ : ByteArray), .slice none 0 0]) ?_ 2 _ rfl; (with_reducible repeat (first | refine blk_drewN ?_ _ | refine blk_drew ?_ | refine blk_alloc ?_ _)); refine blk_put (cs := #[.string a0_0, .string (⟨#[]⟩ : ByteArray), .slice none 0 0, .string (⟨#[]⟩ : ByteArray), .slice none 0 0]) ?_ 1 _ rfl; (with_reducible repeat (first | refine blk_drewN ?_ _ | refine blk_drew ?_ | refine blk_alloc ?_ _)); refine blk_put (cs := #[.string (⟨#[]⟩ : ByteArray), .string (⟨#[]⟩ : ByteArray), .slice none 0 0, .string (⟨#[]⟩ : ByteArray), .slice none 0 0]) ?_ 0 _ rfl; (with_reducible repeat (first | refine blk_drewN ?_ _ | refine blk_drew ?_ | refine blk_alloc ?_ _)); refine blk_far ?_ NB320_321.out _; (with_reducible repeat (first | refine blk_drewN ?_ _ | refine blk_drew ?_ | refine blk_alloc ?_ _)); exact BK320.out) Tryz.underlying55 rfl (by kernel_rfl)) rfl ?_
 exact ⟨_, _, eR_, by (with_reducible repeat (first | apply Kd.R_alloc | apply Kd.R_drewN | apply Kd.R_drew)); exact Kd.R_mono (Kd.R_far (p := ⟨gb320, 4, none⟩) (Kd.R_far (p := ⟨gb320, 3, none⟩) (Kd.R_far (p := ⟨gb320, 2, none⟩) (Kd.R_far (p := ⟨gb320, 1, none⟩) (Kd.R_far (p := ⟨gb320, 0, none⟩) (Kd.R_far (p := ⟨gb321, 4, none⟩) (Kd.R_types (Kd.R_types HO324.out BK321.out (by decide)) BK320.out (by decide)) (fun _ hk => hk.1.2) (.slice Ao17 t325.length co17)) (fun _ hk => hk.2) (.string a0_0)) (fun _ hk => hk.2) (.string a0_1)) (fun _ hk => hk.2) (.slice Ao13 t322.length co13)) (fun _ hk => hk.2) (.string a0_3)) (fun _ hk => hk.2) (.slice Ao17 t325.length co17)) (fun _ hk => trivial), by (with_reducible repeat (first | apply Kd.R_alloc | apply Kd.R_drewN | apply Kd.R_drew)); exact Kd.R_mono (Kd.R_far (p := ⟨gb320, 4, none⟩) (Kd.R_far (p := ⟨gb320, 3, none⟩) (Kd.R_far (p := ⟨gb320, 2, none⟩) (Kd.R_far (p := ⟨gb320, 1, none⟩) (Kd.R_far (p := ⟨gb320, 0, none⟩) (Kd.R_far (p := ⟨gb321, 4, none⟩) (Kd.R_types (Kd.R_types HO327.out BK321.out (by decide)) BK320.out (by decide)) (fun _ hk => hk.1.2) (.slice Ao17 t325.length co17)) (fun _ hk => hk.2) (.string a0_0)) (fun _ hk => hk.2) (.string a0_1)) (fun _ hk => hk.2) (.slice Ao13 t322.length co13)) (fun _ hk => hk.2) (.string a0_3)) (fun _ hk => hk.2) (.slice Ao17 t325.length co17)) (fun _ hk => trivial), by repeat (first | (with_reducible first | exact HB.out | apply below_alloc | apply pw_below_drewN | apply below_drew1 | refine below_set ?_ GE319.out | refine below_set ?_ GE320.out | refine below_set ?_ GE321.out) | exact HB.out)⟩
def laws_toItemS.l0 : Nat → List (S52) → List (S55) → Int → Option ((List (S55)))
 | 0, _, _, _ => none
 | k + 1, x0, x3, x4 => if x4 < (x0.length : Int) then (if 0 ≤ x4 then ((laws_toItem.f k ((rd_T52 x0 x4).f0) ((rd_T52 x0 x4).f1) ((rd_T52 x0 x4).f2) ((rd_T52 x0 x4).f3) ((rd_T52 x0 x4).f4)).bind fun bt332 => (if x4 < (x3.length : Int) then (laws_toItemS.l0 k x0 (x3.set (x4 : Int).toNat (⟨bt332.1, bt332.2.1, bt332.2.2.1, bt332.2.2.2.1, bt332.2.2.2.2⟩ : S55)) (wrap64 (x4 + 1))) else (none))) else (none)) else (some x3)
def laws_toItemS.f (k : Nat) (l0 : List (S52)) : Option ((List (S55))) := if 0 ≤ (l0.length : Int) then (if ((l0.length : Int) : Int).toNat ≤ 2932031007402 then (laws_toItemS.l0 k l0 (List.replicate ((l0.length : Int) : Int).toNat z55) 0) else (none)) else (none)
set_option maxHeartbeats 8000000 in
set_option maxRecDepth 100000 in
theorem laws_toItemS.calls (k : Nat) (A0 : Option Addr) (c0 : Nat) (l0 : List (S52)) (r : List (S55)) (w : World) (hr0 : Kd.C k52 w A0 l0.length l0) (hc0 : l0.length ≤ c0) (h : laws_toItemS.f k l0 = some r) :
 Calls Tryz.prog 10 #[.slice A0 l0.length c0] w fun e w' => ∃ v0_ : Value, e = .returned (v0_) ∧ Kd.S k55 55 w' w.heap.size (fun _ => True) v0_ r ∧ Below w.heap.size w w' := by
 have hu52 := Tryz.underlying52
 have hu55 := Tryz.underlying55
 have HR0 := Aside0.mk hr0
 have HC0 := Aside0.mk hc0
 clear hr0 hc0
 have HB := Aside0.mk (Below.refl w.heap.size w)
 have H : (if 0 ≤ (l0.length : Int) then (if ((l0.length : Int) : Int).toNat ≤ 2932031007402 then (laws_toItemS.l0 k l0 (List.replicate ((l0.length : Int) : Int).toNat z55) 0) else (none)) else (none)) = some r := h
 clear h
 by_cases c2 : 0 ≤ (l0.length : Int)
 {
 rw [if_pos c2] at H
 have c2b0 := eq_true c2
 have c2b1 := decide_eq_true c2
 clear c2
 by_cases c3 : ((l0.length : Int) : Int).toNat ≤ 2932031007402
 {
 rw [if_pos c3] at H
 have c3b0 := eq_true c3
 have c3b1 := decide_eq_true c3
 clear c3
 obtain ⟨y328, hy328⟩ : ∃ y_ : List (S55), y_ = (List.replicate ((l0.length : Int) : Int).toNat z55) := ⟨_, rfl⟩
 replace H : (laws_toItemS.l0 k l0 y328 0) = some r := by first | (rw [hy328]; with_reducible exact H) | (have H2_ := (Option.bind_some _ _).symm.trans H; rw [hy328]; with_reducible exact H2_) | (have H2_ := (Option.bind_some _ _).symm.trans H; with_reducible exact H2_) | with_reducible exact H | (rw [hy328]; exact H) | exact H
 have Ny328 := Aside0.mk hy328
 clear hy328
 have H' := Aside0.mk H
 clear H
 go_enter Tryz.func10, Tryz.ntmps10
 go_wp2_with (first | ((with_reducible refine gate_dst (N := 7) rfl ?_); refine Kd.S_make k55 _ 55 rfl (N := 7) rfl 25 _ _ rfl (l0.length : Int) rfl rfl Tryz.underlying25 (.agg #[(.string ⟨#[]⟩), (.string ⟨#[]⟩), (.slice none 0 0), (.string ⟨#[]⟩), (.slice none 0 0)]) 96 info55 rfl (by decide) (by omega) z55 (ok := fun _ => True) (okp := fun _ => True) (k55_mkM _ _ _ z55 (Kd.R_nil _ _ _ _ _) (Kd.R_nil _ _ _ _ _)) (fun _ hk => hk) trivial (dA_) (Nat.le_trans (Nat.mul_le_mul_right _ (dA_ : (l0.length : Int).toNat ≤ 2932031007402)) (by omega)) (Below.refl _ _) (Nat.le_refl _) ?_; intro v329 w4 ho5 hb hg_ hnew_; clear hg_ hnew_; (first | rw [← Ny328.out] at ho5 | (simp only [Int.reduceToNat] at ho5; rw [← Ny328.out] at ho5)); have HO330 := Aside0.mk (Kd.S_lower ho5 (below_size (bw_ HB))); replace HB := Aside0.mk (below_step (bw_ HB) hb); clear hb ho5))
 go_loopg [4] k (fun kq v4 w' => ∃ (x3_1 : List (S55)) (x4_1 : Int), v4 = .int .i64 x4_1 ∧ Aside0 (laws_toItemS.l0 kq l0 x3_1 x4_1 = some r) ∧ Aside0 (kq ≤ k) ∧ Aside0 (Kd.S k55 55 w' w.heap.size (fun _ => True) v329 x3_1) ∧ Aside0 (Below w.heap.size w w'))
 case atStart => exact ⟨(y328), (0), (by first | rfl | (simp; done) | (simp [*]; done)), H', ⟨Nat.le_refl _⟩, ⟨ks_ HO330⟩, ⟨bw_ HB⟩⟩
 case round =>
  clear H'
  try clear c1
  try clear c2
  try clear c2b0
  try clear c2b1
  try clear p2
  try clear c3
  try clear c3b0
  try clear c3b1
  obtain ⟨x3_1, x4_1, rfl, HA, HK1, HO_3, HB⟩ := hrel
  cases gk with
  | zero => exact absurd HA.out (by simp [laws_toItemS.l0])
  | succ k1 =>
   have H := HA.out
   clear HA
   simp only [laws_toItemS.l0] at H
   by_cases c6 : x4_1 < (l0.length : Int)
   {
   rw [if_pos c6] at H
   have c6b0 := decide_eq_true c6
   clear c6
   by_cases c7 : 0 ≤ x4_1
   {
   rw [if_pos c7] at H
   have c7b0 := decide_eq_true c7
   clear c7
   replace H := Option.bind_eq_some_iff.mp H
   obtain ⟨⟨t332, t333, t334, t337, t338⟩, A80, H⟩ := H
   have A8 := Aside0.mk A80
   clear A80
   by_cases c9 : x4_1 < (x3_1.length : Int)
   {
   rw [if_pos c9] at H
   have c9b0 := decide_eq_true c9
   clear c9
   obtain ⟨y341, hy341⟩ : ∃ y_ : List (S55), y_ = (x3_1.set (x4_1 : Int).toNat (⟨t332, t333, t334, t337, t338⟩ : S55)) := ⟨_, rfl⟩
   replace H : (laws_toItemS.l0 k1 l0 y341 (wrap64 (x4_1 + 1))) = some r := by first | (rw [hy341]; with_reducible exact H) | (have H2_ := (Option.bind_some _ _).symm.trans H; rw [hy341]; with_reducible exact H2_) | (have H2_ := (Option.bind_some _ _).symm.trans H; with_reducible exact H2_) | with_reducible exact H | (rw [hy341]; exact H) | exact H
   have Ny341 := Aside0.mk hy341
   clear hy341
   have H' := Aside0.mk H
   clear H
   have p331 : 0 ≤ (x4_1 : Int) := dA_
   have q331 : x4_1 < (l0.length : Int) := dA_
   obtain ⟨ad331, A331_2, c331_2, A331_4, c331_4, e331, hx331_0, hx331_1, hx331_2, hx331_3, hx331_4, hl331_2, hi331_2, hl331_4, hi331_4⟩ := at_T52 HR0.out x4_1 p331 q331
   cases e331
   replace hx331_0 := hX_ HB hx331_0
   replace hx331_1 := hX_ HB hx331_1
   replace hx331_2 := hX_ HB hx331_2
   replace hx331_3 := hX_ HB hx331_3
   replace hx331_4 := hX_ HB hx331_4
   have HR331_2 := Aside0.mk hi331_2
   have HC331_2 := Aside0.mk hl331_2
   clear hi331_2 hl331_2
   have HR331_4 := Aside0.mk hi331_4
   have HC331_4 := Aside0.mk hl331_4
   clear hi331_4 hl331_4
   replace p331 := eq_true p331
   replace q331 := eq_true q331
   go_wp2_with (first | ((with_reducible refine gate_callee (f := 34) rfl ?_); refine gL_ (some 20) Tryz.func34 #[.agg #[.string ((rd_T52 l0 x4_1).f0), .string ((rd_T52 l0 x4_1).f1), .slice A331_2 ((rd_T52 l0 x4_1).f2).length c331_2, .string ((rd_T52 l0 x4_1).f3), .slice A331_4 ((rd_T52 l0 x4_1).f4).length c331_4]] ?_; (with_reducible refine (laws_toItem.calls k1 ((rd_T52 l0 x4_1).f0) ((rd_T52 l0 x4_1).f1) _ _ ((rd_T52 l0 x4_1).f2) ((rd_T52 l0 x4_1).f3) _ _ ((rd_T52 l0 x4_1).f4) t332 t333 t334 t337 t338 _ ?side1 ?side2 ?side3 ?side4 A8.out).mono ?_); (case side1 => exact cS_ HR331_2 HB); (case side2 => exact HC331_2.out); (case side3 => exact cS_ HR331_4 HB); (case side4 => exact HC331_4.out); rintro e w11 ⟨v335, v339, rfl, ho0, ho1, hb⟩; refine ⟨_, rfl, ?_⟩; replace HO_3 := Aside0.mk (Kd.S_mono (Kd.S_told (Kd.S_told (Kd.S_old (ks_ HO_3) hb) (Kd.R_base ho0)) (Kd.R_base ho1)) (fun _ h_ => h_.1)); have HO336 := Aside0.mk (Kd.R_lower ho0 (below_size (bw_ HB))); have HO340 := Aside0.mk (Kd.R_lower ho1 (below_size (bw_ HB))); replace HB := Aside0.mk (below_step (bw_ HB) hb); (try clear hb); (try clear hb2); (try clear hk); (try clear hi); (try clear ho0); (try clear ho1); have p10 : 0 ≤ (x4_1 : Int) := dA_; have q10 : (x4_1 : Int) < ((x3_1.length : Int) : Int) := dA_; obtain ⟨go10, co10, eo10, gb10, gl10, cl10, HG10⟩ := Kd.S_form HO_3.out (by omega); (first | cases eo10 | (injection eo10 with ea_ en_ ec_; (first | subst ea_ | (injection ea_ with ea_; subst ea_)); subst ec_; clear en_)); have GB10 := Aside0.mk gb10; have GG10 := Aside0.mk HG10; clear gb10 gl10 HG10; obtain ⟨_, ce10, hcl10, hM10, hcc10, hfr10, _, _⟩ := Kd.S_elem HO_3.out z55 (x4_1 : Int) p10 q10; obtain ⟨ve10_2, ve10_4, rfl, ge10_2, ge10_4⟩ := k55_openM hM10; have hx10_0 : w11.cell? ⟨go10, (x4_1 : Int).toNat * 5, none⟩ = some (.string ((rd_T55 x3_1 x4_1).f0)) := hcc10 0 _ rfl; have hx10_1 : w11.cell? ⟨go10, (x4_1 : Int).toNat * 5 + 1, none⟩ = some (.string ((rd_T55 x3_1 x4_1).f1)) := hcc10 1 _ rfl; have hx10_2 : w11.cell? ⟨go10, (x4_1 : Int).toNat * 5 + 2, none⟩ = some (ve10_2) := hcc10 2 _ rfl; have hx10_3 : w11.cell? ⟨go10, (x4_1 : Int).toNat * 5 + 3, none⟩ = some (.string ((rd_T55 x3_1 x4_1).f3)) := hcc10 3 _ rfl; have hx10_4 : w11.cell? ⟨go10, (x4_1 : Int).toNat * 5 + 4, none⟩ = some (ve10_4) := hcc10 4 _ rfl; have hf10_0 : w11.frozen? ⟨go10, (x4_1 : Int).toNat * 5, none⟩ = false := hfr10 0; have hf10_1 : w11.frozen? ⟨go10, (x4_1 : Int).toNat * 5 + 1, none⟩ = false := hfr10 1; have hf10_2 : w11.frozen? ⟨go10, (x4_1 : Int).toNat * 5 + 2, none⟩ = false := hfr10 2; have hf10_3 : w11.frozen? ⟨go10, (x4_1 : Int).toNat * 5 + 3, none⟩ = false := hfr10 3; have hf10_4 : w11.frozen? ⟨go10, (x4_1 : Int).toNat * 5 + 4, none⟩ = false := hfr10 4; clear hcl10 hcc10 hfr10; (try clear hM10); replace p10 := eq_true p10; replace q10 := eq_true q10; have n_ := Aside0.mk (Kd.S_mono (ok' := (fun k_ => some k_ ≠ (v335 : Value).ownBlock ∧ some k_ ≠ (v339 : Value).ownBlock)) HO_3.out (fun k_ hk => ⟨hk.1.2, hk.2⟩)); clear HO_3; have HO_3 := n_; clear n_; have HX12 := Aside0.mk (show Kd.S k55 55 w11 w.heap.size (fun k_ => ((fun _ => True)) k_ ∧ ¬ ((fun k_ => some k_ = (v335 : Value).ownBlock ∨ some k_ = (v339 : Value).ownBlock)) k_) (.slice (some ⟨go10, 0, none⟩) x3_1.length co10) x3_1 from (by (with_reducible repeat (first | apply Kd.S_alloc | apply Kd.S_drewN | apply Kd.S_drew)); exact Kd.S_mono HO_3.out (fun k_ hk => ⟨trivial, fun e_ => e_.elim (fun h_ => hk.1 h_) (fun h_ => hk.2 h_)⟩))); obtain ⟨oki12, ce12, hcl12, hM12, hcc12, hfr12, hoki12, hH12⟩ := Kd.S_elem HX12.out z55 (x4_1 : Int) (dA_) (by have h_ : (x4_1 : Int) < ((x3_1.length : Int) : Int) := dA_; first | exact h_ | (have e_ := (Kd.S_reads' HO_3.out).1; omega) | simpa using h_); obtain ⟨ve12_2, ve12_4, rfl, ge12_2, ge12_4⟩ := k55_openM hM12; have HP12 := Kd.S_seg hH12 (dA_) (by have h_ : (x4_1 : Int) < ((x3_1.length : Int) : Int) := dA_; first | exact h_ | (have e_ := (Kd.S_reads' HO_3.out).1; omega) | simpa using h_) (seg := [.string t332, .string t333, v335, .string t337, v339]) (j := 0) (show 5 ≤ 5 from by decide) (x' := (⟨t332, t333, t334, t337, t338⟩ : S55)) (k55_mkM _ _ _ (⟨t332, t333, t334, t337, t338⟩ : S55) (Kd.R_mono (Kd.R_tight rfl (Kd.R_mono (ok' := fun k_ => ((fun _ => True)) k_ ∧ k_ ≠ go10) (Kd.R_apart' (HO336.out) (Kd.S_typed HO_3.out) (by decide)) (fun k_ hk => ⟨trivial, fun e_ => (hk.2) (by rw [e_]; rfl)⟩))) (fun _ h_ => Or.inr (Or.inl h_))) (Kd.R_mono (Kd.R_tight rfl (Kd.R_mono (ok' := fun k_ => ((fun _ => True)) k_ ∧ k_ ≠ go10) (Kd.R_apart' (HO340.out) (Kd.S_typed HO_3.out) (by decide)) (fun k_ hk => ⟨trivial, fun e_ => (hk.2) (by rw [e_]; rfl)⟩))) (fun _ h_ => Or.inr (Or.inr (h_))))) (fun _ hk => hk) (fun k_ hk_ => hk_.elim (fun h_ => ((Kd.R_mono (ok' := fun k_ => ((fun _ => True)) k_ ∧ k_ ≠ go10) (Kd.R_apart' (HO336.out) (Kd.S_typed HO_3.out) (by decide)) (fun k_ hk => ⟨trivial, fun e_ => (hk.2) (by rw [e_]; rfl)⟩))).1 k_ h_.symm) (fun h_ => ((Kd.R_mono (ok' := fun k_ => ((fun _ => True)) k_ ∧ k_ ≠ go10) (Kd.R_apart' (HO340.out) (Kd.S_typed HO_3.out) (by decide)) (fun k_ hk => ⟨trivial, fun e_ => (hk.2) (by rw [e_]; rfl)⟩))).1 k_ h_.symm)); have hx12_0 := hcc12 0 _ rfl; (try simp only [show (k55).sz = 5 from rfl, Nat.mul_one, Nat.add_zero] at hx12_0); have hf12_0 := hfr12 0; (try simp only [show (k55).sz = 5 from rfl, Nat.mul_one, Nat.add_zero] at hf12_0); have hx12_1 := hcc12 1 _ rfl; (try simp only [show (k55).sz = 5 from rfl, Nat.mul_one, Nat.add_zero] at hx12_1); have hf12_1 := hfr12 1; (try simp only [show (k55).sz = 5 from rfl, Nat.mul_one, Nat.add_zero] at hf12_1); have hx12_2 := hcc12 2 _ rfl; (try simp only [show (k55).sz = 5 from rfl, Nat.mul_one, Nat.add_zero] at hx12_2); have hf12_2 := hfr12 2; (try simp only [show (k55).sz = 5 from rfl, Nat.mul_one, Nat.add_zero] at hf12_2); have hx12_3 := hcc12 3 _ rfl; (try simp only [show (k55).sz = 5 from rfl, Nat.mul_one, Nat.add_zero] at hx12_3); have hf12_3 := hfr12 3; (try simp only [show (k55).sz = 5 from rfl, Nat.mul_one, Nat.add_zero] at hf12_3); have hx12_4 := hcc12 4 _ rfl; (try simp only [show (k55).sz = 5 from rfl, Nat.mul_one, Nat.add_zero] at hx12_4); have hf12_4 := hfr12 4; (try simp only [show (k55).sz = 5 from rfl, Nat.mul_one, Nat.add_zero] at hf12_4); clear hcl12 hcc12 hfr12 hoki12 hH12; (try clear hM12)) | ((with_reducible refine gate_store (t := 55) (p := 21) rfl ?_); refine store_event (t := 55) (p := 21) (v := ?vo_w13) (w1 := (((((w11.setCell ⟨go10, (x4_1 : Int).toNat * 5, none⟩ (.string t332)).setCell ⟨go10, (x4_1 : Int).toNat * 5 + 1, none⟩ (.string t333)).setCell ⟨go10, (x4_1 : Int).toNat * 5 + 2, none⟩ (v335)).setCell ⟨go10, (x4_1 : Int).toNat * 5 + 3, none⟩ (.string t337)).setCell ⟨go10, (x4_1 : Int).toNat * 5 + 4, none⟩ (v339))) ?hg ?ho ?hn ?hr ?_; (case ho => rfl); (case hg => rfl); (case hn => rfl); (case hr => first | (go_simp; done) | (go_simp; rfl) | (obtain ⟨As_, cs_, es_⟩ := Kd.R_slice HO336.out; (cases es_); first | (go_simp; done) | (go_simp; rfl)) | (obtain ⟨As_, cs_, es_⟩ := Kd.R_slice HO340.out; (cases es_); first | (go_simp; done) | (go_simp; rfl)) | (obtain ⟨As0_, cs0_, es0_⟩ := Kd.R_slice HO336.out; (cases es0_); obtain ⟨As1_, cs1_, es1_⟩ := Kd.R_slice HO340.out; (cases es1_); first | (go_simp; done) | (go_simp; rfl))); intro w13 hw; have hg : w11.grownBy w13 (some go10) := (by rw [hw]; exact HP12.2); have hp_ : Kd.S k55 55 w13 w.heap.size (fun _ => True) (.slice (some ⟨go10, 0, none⟩) x3_1.length co10) y341 := (by rw [hw, Ny341.out]; exact HP12.1); clear HP12; replace HO_3 := Aside0.mk (hp_); replace HB := Aside0.mk ((by rw [hw]; exact below_set (below_set (below_set (below_set (below_set (HB.out) GB10.out) GB10.out) GB10.out) GB10.out) GB10.out : Below w.heap.size w w13)); clear HO336 HO340; clear hg hw hp_))
   go_roundg k1
   case measure => have := HK1.out; omega
   case rel => exact ⟨(y341), (wrap64 (x4_1 + 1)), (by first | rfl | (simp; done) | (simp [*]; done)), H', ⟨by have := HK1.out; omega⟩, ⟨ks_ HO_3⟩, ⟨bw_ HB⟩⟩}
   {
   rw [if_neg c9] at H
   exact absurd H (by simp)}}
   {
   rw [if_neg c7] at H
   exact absurd H (by simp)}}
   {
   rw [if_neg c6] at H
   have c6b0 := decide_eq_false c6
   (try (have c6b0' := c6b0; simp only [hl331_4] at c6b0'))
   clear c6
   obtain rfl := Option.some.inj H
   go_wp2
   go_ret
   exact ⟨_, eR_, ks_ HO_3, bw_ HB⟩}}
 {
 rw [if_neg c3] at H
 exact absurd H (by simp)}}
 {
 rw [if_neg c2] at H
 exact absurd H (by simp)
}
end Go.Proofs.YtikjbfjnbhaljaaGreatDoor.P
end

section
namespace Go.Proofs.YtikjbfjnbhaljaaGreatDoor.P
open Go.RowKit Go.Proofs.YtikjbfjnbhaljaaGreatDoorW.PrintWords Go.Proofs.YtikjbfjnbhaljaaGreatDoorW.PrintLast Go.Proofs.YtikjbfjnbhaljaaGreatDoorW.PrintMore Go.Proofs.YtikjbfjnbhaljaaGreatDoorM
attribute [local go_sem] max2_int min2_int max_two min_two max_three min_three max_four min_four
set_option linter.unusedVariables false
set_option linter.unusedSimpArgs false
def spec_TreeSum.f (k : Nat) (l0 : List (S57)) : Option (ByteArray) := (spec_TreeOk.f k l0).bind fun t205 => (if t205 = true then ((spec_PackTree.f k l0).bind fun t206 => ((spec_Sum.f k t206).bind fun t209 => ((spec_Word32.f k t209).bind fun t210 => (some t210)))) else (some (⟨#[]⟩ : ByteArray)))
set_option maxHeartbeats 8000000 in
set_option maxRecDepth 100000 in
theorem spec_TreeSum.calls (k : Nat) (A0 : Option Addr) (c0 : Nat) (l0 : List (S57)) (r : ByteArray) (w : World) (hr0 : Kd.C k57 w A0 l0.length l0) (hc0 : l0.length ≤ c0) (h : spec_TreeSum.f k l0 = some r) :
 Calls Tryz.prog 73 #[.slice A0 l0.length c0] w fun e w' => e = .returned (.string r) ∧ Below w.heap.size w w' := by
 have HR0 := Aside0.mk hr0
 have HC0 := Aside0.mk hc0
 clear hr0 hc0
 have HB := Aside0.mk (Below.refl w.heap.size w)
 have H : ((spec_TreeOk.f k l0).bind fun t205 => (if t205 = true then ((spec_PackTree.f k l0).bind fun t206 => ((spec_Sum.f k t206).bind fun t209 => ((spec_Word32.f k t209).bind fun t210 => (some t210)))) else (some (⟨#[]⟩ : ByteArray)))) = some r := h
 clear h
 replace H := Option.bind_eq_some_iff.mp H
 obtain ⟨t205, A20, H⟩ := H
 have A2 := Aside0.mk A20
 clear A20
 by_cases c3 : t205 = true
 {
 subst c3
 rw [if_pos rfl] at H
 replace H := Option.bind_eq_some_iff.mp H
 obtain ⟨t206, A40, H⟩ := H
 have A4 := Aside0.mk A40
 clear A40
 replace H := Option.bind_eq_some_iff.mp H
 obtain ⟨t209, A50, H⟩ := H
 have A5 := Aside0.mk A50
 clear A50
 replace H := Option.bind_eq_some_iff.mp H
 obtain ⟨t210, A60, H⟩ := H
 have A6 := Aside0.mk A60
 clear A60
 obtain rfl := Option.some.inj H
 go_enter Tryz.func73, Tryz.ntmps73
 go_wp2_with (first | ((with_reducible refine gate_callee (f := 44) rfl ?_); refine gL_ (some 4) Tryz.func44 #[.slice A0 l0.length c0] ?_; (with_reducible refine (spec_TreeOk.calls k _ _ l0 true _ ?side1 ?side2 A2.out).mono ?_); (case side1 => repeat (first | exact HR0.out | (with_reducible refine Kd.C_alloc ?_ _) | (with_reducible refine Kd.C_drewN ?_ _) | (with_reducible refine Kd.C_drew ?_))); (case side2 => exact HC0.out); rintro e w7 ⟨rfl, hb⟩; refine ⟨_, rfl, ?_⟩; replace HB := Aside0.mk (below_step (bw_ HB) hb); (try clear hb); (try clear hb2); (try clear hk); (try clear hi)) | ((with_reducible refine gate_callee (f := 93) rfl ?_); refine gL_ (some 7) Tryz.func93 #[.slice A0 l0.length c0] ?_; (with_reducible refine (spec_PackTree.calls k _ _ l0 t206 _ ?side1 ?side2 A4.out).mono ?_); (case side1 => exact cS_ HR0 HB); (case side2 => exact HC0.out); rintro e w8 ⟨v207, rfl, ho0, hb⟩; refine ⟨_, rfl, ?_⟩; have HO208 := Aside0.mk (Kd.R_lower ho0 (below_size (bw_ HB))); replace HB := Aside0.mk (below_step (bw_ HB) hb); (try clear hb); (try clear hb2); (try clear hk); (try clear hi); (try clear ho0); obtain ⟨Ao9, co9, eo9⟩ := Kd.R_slice HO208.out; subst eo9) | ((with_reducible refine gate_callee (f := 92) rfl ?_); refine gL_ (some 8) Tryz.func92 #[.slice Ao9 t206.length co9] ?_; (with_reducible refine (spec_Sum.calls k _ _ t206 t209 _ ?side1 ?side2 A5.out).mono ?_); (case side1 => repeat (first | exact (Kd.R_reads' HO208.out).2.2 | (with_reducible refine Kd.C_alloc ?_ _) | (with_reducible refine Kd.C_drewN ?_ _) | (with_reducible refine Kd.C_drew ?_))); (case side2 => exact (Kd.R_reads' HO208.out).2.1); rintro e w' ⟨rfl, ⟨nd, rfl⟩⟩; refine ⟨_, rfl, ?_⟩) | ((with_reducible refine gate_callee (f := 91) rfl ?_); refine gL_ (some 9) Tryz.func91 #[.int .u64 t209] ?_; (with_reducible refine (spec_Word32.calls k t209 t210 _ A6.out).mono ?_); rintro e w10 ⟨rfl, hb⟩; refine ⟨_, rfl, ?_⟩; replace HO208 := Aside0.mk (Kd.R_below (kr_ HO208) hb); replace HB := Aside0.mk (below_step (bw_ HB) hb); (try clear hb); (try clear hb2); (try clear hk); (try clear hi)))
 go_ret
 exact ⟨eR_, bw_ HB⟩}
 {
 replace c3 := Bool.eq_false_iff.mpr c3
 subst c3
 rw [if_neg (show ¬ (false = true) by decide)] at H
 obtain rfl := Option.some.inj H
 go_enter Tryz.func73, Tryz.ntmps73
 go_wp2_with (first | ((with_reducible refine gate_callee (f := 44) rfl ?_); refine gL_ (some 4) Tryz.func44 #[.slice A0 l0.length c0] ?_; (with_reducible refine (spec_TreeOk.calls k _ _ l0 false _ ?side1 ?side2 A2.out).mono ?_); (case side1 => repeat (first | exact HR0.out | (with_reducible refine Kd.C_alloc ?_ _) | (with_reducible refine Kd.C_drewN ?_ _) | (with_reducible refine Kd.C_drew ?_))); (case side2 => exact HC0.out); rintro e w11 ⟨rfl, hb⟩; refine ⟨_, rfl, ?_⟩; replace HB := Aside0.mk (below_step (bw_ HB) hb); (try clear hb); (try clear hb2); (try clear hk); (try clear hi)))
 go_ret
 exact ⟨eR_, bw_ HB⟩
}
end Go.Proofs.YtikjbfjnbhaljaaGreatDoor.P
end

section
namespace Go.Proofs.YtikjbfjnbhaljaaGreatDoor.P
open Go.RowKit Go.Proofs.YtikjbfjnbhaljaaGreatDoorW.PrintWords Go.Proofs.YtikjbfjnbhaljaaGreatDoorW.PrintLast Go.Proofs.YtikjbfjnbhaljaaGreatDoorW.PrintMore Go.Proofs.YtikjbfjnbhaljaaGreatDoorM
attribute [local go_sem] max2_int min2_int max_two min_two max_three min_three max_four min_four
set_option linter.unusedVariables false
set_option linter.unusedSimpArgs false
def impl_sameTexts.l0 : Nat → List ByteArray → List ByteArray → Int → Int → Option (Bool)
 | 0, _, _, _, _ => none
 | k + 1, x0, x1, x12, x13 => if x13 < x12 then (if 0 ≤ x13 then (if x13 < (x0.length : Int) then (if x13 < (x1.length : Int) then (if (rdOf ByteArray.empty x0 x13).toList = (rdOf ByteArray.empty x1 x13).toList then (impl_sameTexts.l0 k x0 x1 x12 (wrap64 (x13 + 1))) else (some false)) else (none)) else (none)) else (none)) else (some true)
def impl_sameTexts.f (k : Nat) (l0 : List ByteArray) (l1 : List ByteArray) : Option (Bool) := if (l0.length : Int) = (l1.length : Int) then (impl_sameTexts.l0 k l0 l1 (l0.length : Int) 0) else (some false)
theorem impl_sameTexts.mono_l : ∀ k, (∀ y0 y1 y2 y3, LeO (impl_sameTexts.l0 k y0 y1 y2 y3) (impl_sameTexts.l0 (k + 1) y0 y1 y2 y3))
 | 0 => fun _ _ _ _ r h => by simp [impl_sameTexts.l0] at h
 | k + 1 => by
  have ih0 := impl_sameTexts.mono_l k
  {
  intro y0 y1 y2 y3
  unfold impl_sameTexts.l0
  repeat' first
  | (with_reducible exact ih0 _ _ _ _)
  | (with_reducible exact LeO.refl _)
  | (with_reducible exact LeO.none _)
  | (with_reducible refine LeO.ite ?_ ?_)
  | (with_reducible refine LeO.bind ?_ (fun _ => ?_))
  | exact ih0 _ _ _ _
  | exact LeO.none _
  | refine LeO.ite ?_ ?_
  | refine LeO.bind ?_ (fun _ => ?_)}
theorem impl_sameTexts.mono : ∀ a0 a1 k, LeO (impl_sameTexts.f k a0 a1) (impl_sameTexts.f (k + 1) a0 a1) := by
 intro a0 a1 k
 have ih0 := impl_sameTexts.mono_l k
 unfold impl_sameTexts.f
 repeat' first
  | (with_reducible exact ih0 _ _ _ _)
  | (with_reducible exact LeO.refl _)
  | (with_reducible exact LeO.none _)
  | (with_reducible refine LeO.ite ?_ ?_)
  | (with_reducible refine LeO.bind ?_ (fun _ => ?_))
  | exact ih0 _ _ _ _
  | exact LeO.none _
  | refine LeO.ite ?_ ?_
  | refine LeO.bind ?_ (fun _ => ?_)
set_option maxHeartbeats 8000000 in
set_option maxRecDepth 100000 in
theorem impl_sameTexts.calls (k : Nat) (A0 : Option Addr) (c0 : Nat) (l0 : List ByteArray) (A1 : Option Addr) (c1 : Nat) (l1 : List ByteArray) (r : Bool) (w : World) (hr0 : Kd.C Kd.string w A0 l0.length l0) (hc0 : l0.length ≤ c0) (hr1 : Kd.C Kd.string w A1 l1.length l1) (hc1 : l1.length ≤ c1) (h : impl_sameTexts.f k l0 l1 = some r) :
 Calls Tryz.prog 85 #[.slice A0 l0.length c0, .slice A1 l1.length c1] w fun e w' => e = .returned (.bool r) ∧ Drawn0 w w' := by
 have HR0 := Aside0.mk hr0
 have HC0 := Aside0.mk hc0
 clear hr0 hc0
 have HR1 := Aside0.mk hr1
 have HC1 := Aside0.mk hc1
 clear hr1 hc1
 have H : (if (l0.length : Int) = (l1.length : Int) then (impl_sameTexts.l0 k l0 l1 (l0.length : Int) 0) else (some false)) = some r := h
 clear h
 by_cases c3 : (l0.length : Int) = (l1.length : Int)
 {
 rw [if_pos c3] at H
 have c3b0 : ((l0.length : Int) == (l1.length : Int)) = true := beq_iff_eq.mpr c3
 have c3b1 : ((l0.length : Int) != (l1.length : Int)) = false := bne_eq_false_iff_eq.mpr c3
 have c3b2 : (l0.length == l1.length) = true := by first | simpa using c3 | (simp at c3 ⊢; omega)
 clear c3
 have H' := Aside0.mk H
 clear H
 go_enter Tryz.func85, Tryz.ntmps85
 go_wp2
 repeat (go_quiet (fail); try go_wp2)
 go_loopg [13] k (fun kq v13 w' => ∃ (x13_1 : Int), v13 = .int .i64 x13_1 ∧ Aside0 (impl_sameTexts.l0 kq l0 l1 (l0.length : Int) x13_1 = some r) ∧ Aside0 (kq ≤ k) ∧ Drawn0 w w')
 case atStart => exact ⟨(0), (by first | rfl | (simp; done) | (simp [*]; done)), H', ⟨Nat.le_refl _⟩, dR_⟩
 case round =>
  clear H'
  try clear c1
  try clear p2
  try clear c3
  try clear c3b0
  try clear c3b1
  try clear c3b2
  obtain ⟨x13_1, rfl, HA, HK1, ⟨m1, rfl⟩⟩ := hrel
  cases gk with
  | zero => exact absurd HA.out (by simp [impl_sameTexts.l0])
  | succ k1 =>
   have H := HA.out
   clear HA
   simp only [impl_sameTexts.l0] at H
   by_cases c4 : x13_1 < (l0.length : Int)
   {
   rw [if_pos c4] at H
   have c4b0 := decide_eq_true c4
   clear c4
   by_cases c5 : 0 ≤ x13_1
   {
   rw [if_pos c5] at H
   have c5b0 := decide_eq_true c5
   clear c5
   by_cases c6 : x13_1 < (l0.length : Int)
   {
   rw [if_pos c6] at H
   have c6b0 := decide_eq_true c6
   clear c6
   by_cases c7 : x13_1 < (l1.length : Int)
   {
   rw [if_pos c7] at H
   have c7b0 := decide_eq_true c7
   clear c7
   by_cases c8 : (rdOf ByteArray.empty l0 x13_1).toList = (rdOf ByteArray.empty l1 x13_1).toList
   {
   rw [if_pos c8] at H
   have c8b0 : ((rdOf ByteArray.empty l0 x13_1).toList == (rdOf ByteArray.empty l1 x13_1).toList) = true := beq_iff_eq.mpr c8
   have c8b1 : ((rdOf ByteArray.empty l0 x13_1).toList != (rdOf ByteArray.empty l1 x13_1).toList) = false := bne_eq_false_iff_eq.mpr c8
   clear c8
   have H' := Aside0.mk H
   clear H
   have p446 : 0 ≤ (x13_1 : Int) := dA_
   have q446 : x13_1 < (l0.length : Int) := dA_
   obtain ⟨ad446, e446, hx446_0⟩ := Kd.at_string HR0.out x13_1 p446 q446
   cases e446
   replace p446 := eq_true p446
   replace q446 := eq_true q446
   have p447 : 0 ≤ (x13_1 : Int) := dA_
   have q447 : x13_1 < (l1.length : Int) := dA_
   obtain ⟨ad447, e447, hx447_0⟩ := Kd.at_string HR1.out x13_1 p447 q447
   cases e447
   replace p447 := eq_true p447
   replace q447 := eq_true q447
   go_wp2
   repeat (go_quiet (fail); try go_wp2)
   go_roundg k1
   case measure => have := HK1.out; omega
   case rel => exact ⟨(wrap64 (x13_1 + 1)), (by first | rfl | (simp; done) | (simp [*]; done)), H', ⟨by have := HK1.out; omega⟩, dR_⟩}
   {
   rw [if_neg c8] at H
   have c8b0 : ((rdOf ByteArray.empty l0 x13_1).toList == (rdOf ByteArray.empty l1 x13_1).toList) = false := beq_eq_false_iff_ne.mpr c8
   have c8b1 : ((rdOf ByteArray.empty l0 x13_1).toList != (rdOf ByteArray.empty l1 x13_1).toList) = true := bne_iff_ne.mpr c8
   obtain rfl := Option.some.inj H
   have p446 : 0 ≤ (x13_1 : Int) := dA_
   have q446 : x13_1 < (l0.length : Int) := dA_
   obtain ⟨ad446, e446, hx446_0⟩ := Kd.at_string HR0.out x13_1 p446 q446
   cases e446
   replace p446 := eq_true p446
   replace q446 := eq_true q446
   have p447 : 0 ≤ (x13_1 : Int) := dA_
   have q447 : x13_1 < (l1.length : Int) := dA_
   obtain ⟨ad447, e447, hx447_0⟩ := Kd.at_string HR1.out x13_1 p447 q447
   cases e447
   replace p447 := eq_true p447
   replace q447 := eq_true q447
   go_wp2
   repeat (go_quiet (fail); try go_wp2)
   go_ret
   exact ⟨eS_, dR_⟩}}
   {
   rw [if_neg c7] at H
   exact absurd H (by simp)}}
   {
   rw [if_neg c6] at H
   exact absurd H (by simp)}}
   {
   rw [if_neg c5] at H
   exact absurd H (by simp)}}
   {
   rw [if_neg c4] at H
   have c4b0 := decide_eq_false c4
   clear c4
   obtain rfl := Option.some.inj H
   go_wp2
   repeat (go_quiet (fail); try go_wp2)
   go_ret
   exact ⟨eS_, dR_⟩}}
 {
 rw [if_neg c3] at H
 have c3b0 : ((l0.length : Int) == (l1.length : Int)) = false := beq_eq_false_iff_ne.mpr c3
 have c3b1 : ((l0.length : Int) != (l1.length : Int)) = true := bne_iff_ne.mpr c3
 have c3b2 : (l0.length == l1.length) = false := by first | simpa using c3 | (simp at c3 ⊢; omega)
 obtain rfl := Option.some.inj H
 go_enter Tryz.func85, Tryz.ntmps85
 go_wp2
 repeat (go_quiet (fail); try go_wp2)
 go_ret
 exact ⟨eS_, dR_⟩
}
end Go.Proofs.YtikjbfjnbhaljaaGreatDoor.P
end

section
namespace Go.Proofs.YtikjbfjnbhaljaaGreatDoor.P
open Go.RowKit Go.Proofs.YtikjbfjnbhaljaaGreatDoorW.PrintWords Go.Proofs.YtikjbfjnbhaljaaGreatDoorW.PrintLast Go.Proofs.YtikjbfjnbhaljaaGreatDoorW.PrintMore Go.Proofs.YtikjbfjnbhaljaaGreatDoorM
attribute [local go_sem] max2_int min2_int max_two min_two max_three min_three max_four min_four
set_option linter.unusedVariables false
set_option linter.unusedSimpArgs false
def impl_itemOk.f (k : Nat) (a0_0 : ByteArray) (a0_1 : ByteArray) (l0_2 : List ByteArray) (a0_3 : ByteArray) (l0_4 : List (S57)) (l1 : List ByteArray) : Option (Bool) := (impl_AddressOk.f k a0_0).bind fun t449 => (if t449 = true then ((impl_TreeOk.f k l0_4).bind fun t450 => (if t450 = true then ((impl_TreeSum.f k l0_4).bind fun t451 => (if a0_1.toList = t451.toList then ((impl_RefsIn.f k l0_4 l1).bind fun t452 => ((impl_sameTexts.f k l0_2 t452).bind fun t455 => (if t455 = true then (if a0_3.toList = ([] : List UInt8) then (some true) else ((impl_AddressOk.f k a0_3).bind fun t456 => (some t456))) else (some false)))) else (some false))) else (some false))) else (some false))
theorem impl_itemOk.mono : ∀ a0 a1 a2 a3 a4 a5 k, LeO (impl_itemOk.f k a0 a1 a2 a3 a4 a5) (impl_itemOk.f (k + 1) a0 a1 a2 a3 a4 a5) := by
 intro a0 a1 a2 a3 a4 a5 k
 unfold impl_itemOk.f
 repeat' first
  | (with_reducible exact impl_AddressOk.mono _ _)
  | (with_reducible exact impl_RefsIn.mono _ _ _)
  | (with_reducible exact impl_TreeOk.mono _ _)
  | (with_reducible exact impl_TreeSum.mono _ _)
  | (with_reducible exact impl_sameTexts.mono _ _ _)
  | (with_reducible exact LeO.refl _)
  | (with_reducible exact LeO.none _)
  | (with_reducible refine LeO.ite ?_ ?_)
  | (with_reducible refine LeO.bind ?_ (fun _ => ?_))
  | exact impl_AddressOk.mono _ _
  | exact impl_RefsIn.mono _ _ _
  | exact impl_TreeOk.mono _ _
  | exact impl_TreeSum.mono _ _
  | exact impl_sameTexts.mono _ _ _
  | exact LeO.none _
  | refine LeO.ite ?_ ?_
  | refine LeO.bind ?_ (fun _ => ?_)
def impl_itemOk.T1 : Bool × List (List Nat × List Nat) := (true, [([], []), ([0], [0]), ([1], [1]), ([2, 2], [2]), ([3], [3]), ([4, 3], [3, 4]), ([5, 3, 3], [3, 5]), ([3, 6], [3, 6]), ([7, 6], [7]), ([8], [8]), ([9, 8], [8, 9]), ([8], [8]), ([11, 8], [8, 11]), ([12, 8, 8], [8, 12]), ([10, 13, 8], [8, 10, 13]), ([8, 14], [8, 14]), ([15, 13], [15]), ([16], [16]), ([17, 16], [16, 17]), ([16], [16]), ([19, 16], [16, 19]), ([16], [16]), ([20, 21, 16, 16], [16, 20, 21]), ([18, 22, 22, 16], [16, 18, 22]), ([16, 23], [16, 23]), ([24, 23], [24]), ([25], [25]), ([26, 25], [25, 26]), ([27, 25], [25, 27]), ([28, 25, 25], [25, 28]), ([29], [29]), ([30, 29], [29, 30]), ([31, 29, 29], [29, 31]), ([29, 32, 25], [25, 29, 32]), ([25, 33], [25, 33]), ([34, 32, 0, 1, 2, 3, 4, 5, 6, 7, 8, 9, 10, 11, 12, 13, 14, 15, 16, 17, 18, 19, 20, 21, 22, 23, 24, 25, 26, 27, 28, 29, 30, 31, 32, 33, 34], [34])])
def impl_itemOk.B1 : List Nat := [0, 1, 3, 7, 15, 31, 63, 127, 255, 511, 1023, 511, 2559, 6655, 16383, 32767, 65535, 131071, 262143, 131071, 655359, 131071, 3801087, 8388607, 16777215, 33554431, 67108863, 134217727, 268435455, 536870911, 1073741823, 2147483647, 4294967295, 8589934591, 17179869183, 34359738367]
theorem impl_itemOk.tab1 : rtab .any (opsOf Tryz.f66 1) = impl_itemOk.T1 := by kernel_rfl
theorem impl_itemOk.bits1 : waitsOk impl_itemOk.T1.2 impl_itemOk.B1 = true := by kernel_rfl
set_option maxHeartbeats 8000000 in
set_option maxRecDepth 100000 in
theorem impl_itemOk.calls (k : Nat) (a0_0 : ByteArray) (a0_1 : ByteArray) (A0_2 : Option Addr) (c0_2 : Nat) (l0_2 : List ByteArray) (a0_3 : ByteArray) (A0_4 : Option Addr) (c0_4 : Nat) (l0_4 : List (S57)) (A1 : Option Addr) (c1 : Nat) (l1 : List ByteArray) (r : Bool) (w : World) (hE : EnvW w) (hr0_2 : Kd.C Kd.string w A0_2 l0_2.length l0_2) (hc0_2 : l0_2.length ≤ c0_2) (hr0_4 : Kd.C k57 w A0_4 l0_4.length l0_4) (hc0_4 : l0_4.length ≤ c0_4) (hr1 : Kd.C Kd.string w A1 l1.length l1) (hc1 : l1.length ≤ c1) (h : impl_itemOk.f k a0_0 a0_1 l0_2 a0_3 l0_4 l1 = some r) :
 Calls Tryz.prog 66 #[.agg #[.string a0_0, .string a0_1, .slice A0_2 l0_2.length c0_2, .string a0_3, .slice A0_4 l0_4.length c0_4], .slice A1 l1.length c1] w fun e w' => e = .returned (.bool r) ∧ Below w.heap.size w w' := by
 have hu55 := Tryz.underlying55
 have HE := Aside0.mk hE
 clear hE
 have HR0_2 := Aside0.mk hr0_2
 have HC0_2 := Aside0.mk hc0_2
 clear hr0_2 hc0_2
 have HR0_4 := Aside0.mk hr0_4
 have HC0_4 := Aside0.mk hc0_4
 clear hr0_4 hc0_4
 have HR1 := Aside0.mk hr1
 have HC1 := Aside0.mk hc1
 clear hr1 hc1
 have HB := Aside0.mk (Below.refl w.heap.size w)
 have H : ((impl_AddressOk.f k a0_0).bind fun t449 => (if t449 = true then ((impl_TreeOk.f k l0_4).bind fun t450 => (if t450 = true then ((impl_TreeSum.f k l0_4).bind fun t451 => (if a0_1.toList = t451.toList then ((impl_RefsIn.f k l0_4 l1).bind fun t452 => ((impl_sameTexts.f k l0_2 t452).bind fun t455 => (if t455 = true then (if a0_3.toList = ([] : List UInt8) then (some true) else ((impl_AddressOk.f k a0_3).bind fun t456 => (some t456))) else (some false)))) else (some false))) else (some false))) else (some false))) = some r := h
 clear h
 replace H := Option.bind_eq_some_iff.mp H
 obtain ⟨t449, A30, H⟩ := H
 have A3 := Aside0.mk A30
 clear A30
 by_cases c4 : t449 = true
 {
 subst c4
 rw [if_pos rfl] at H
 replace H := Option.bind_eq_some_iff.mp H
 obtain ⟨t450, A50, H⟩ := H
 have A5 := Aside0.mk A50
 clear A50
 by_cases c6 : t450 = true
 {
 subst c6
 rw [if_pos rfl] at H
 replace H := Option.bind_eq_some_iff.mp H
 obtain ⟨t451, A70, H⟩ := H
 have A7 := Aside0.mk A70
 clear A70
 by_cases c8 : a0_1.toList = t451.toList
 {
 rw [if_pos c8] at H
 have c8b0 : (a0_1.toList == t451.toList) = true := beq_iff_eq.mpr c8
 have c8b1 : (a0_1.toList != t451.toList) = false := bne_eq_false_iff_eq.mpr c8
 clear c8
 replace H := Option.bind_eq_some_iff.mp H
 obtain ⟨t452, A90, H⟩ := H
 have A9 := Aside0.mk A90
 clear A90
 replace H := Option.bind_eq_some_iff.mp H
 obtain ⟨t455, A100, H⟩ := H
 have A10 := Aside0.mk A100
 clear A100
 by_cases c11 : t455 = true
 {
 subst c11
 rw [if_pos rfl] at H
 by_cases c12 : a0_3.toList = ([] : List UInt8)
 {
 rw [if_pos c12] at H
 have c12b0 : (a0_3.toList == ([] : List UInt8)) = true := beq_iff_eq.mpr c12
 have c12b1 : (a0_3.toList != ([] : List UInt8)) = false := bne_eq_false_iff_eq.mpr c12
 clear c12
 obtain rfl := Option.some.inj H
 go_enter Tryz.func66, Tryz.ntmps66
 try go_wp2_with (first | ((with_reducible refine gate_dst (N := 2) rfl ?_); refine bE_ 2 #[.string a0_0, .string a0_1, .slice A0_2 l0_2.length c0_2, .string a0_3, .slice A0_4 l0_4.length c0_4] 55 ?_; intro gb448 hg w13 hbox hb; have BK448 := Aside0.mk (hbox); have GW448 := Aside0.mk (ge_ hg (bw_ HB)); have GE448 := Aside0.mk (ge_ hg (bw_ HB)); replace HB := Aside0.mk (below_step (bw_ HB) hb); clear hb hbox hg))
 replace BK448 := Aside0.mk (blk_drew BK448.out)
 replace HB := Aside0.mk (below_drew1 HB.out)
 refine start_ (n := 36) (S := fun w' => w'.cell? ⟨gb448, 0, none⟩ = some (.string a0_0) ∧ w'.cell? ⟨gb448, 1, none⟩ = some (.string a0_1) ∧ w'.cell? ⟨gb448, 2, none⟩ = some (.slice A0_2 l0_2.length c0_2) ∧ w'.cell? ⟨gb448, 3, none⟩ = some (.string a0_3) ∧ w'.cell? ⟨gb448, 4, none⟩ = some (.slice A0_4 l0_4.length c0_4)) (ds := []) (bs_ 36 0) (by kernel_rfl) rfl (by kernel_rfl) ⟨(blk_cell BK448.out 0).trans rfl, (blk_cell BK448.out 1).trans rfl, (blk_cell BK448.out 2).trans rfl, (blk_cell BK448.out 3).trans rfl, (blk_cell BK448.out 4).trans rfl⟩ (fun hHeld => ?_); refine with_tabW impl_itemOk.tab1 impl_itemOk.bits1 (fun HT_ HW_ => ?_)
 generalize w13.drew = w14 at BK448 HB hHeld ⊢
 refine pS_ 0 ?_
 refine t5_ 1 hHeld ?_
 refine oS_ 2 (fun K hK => ?_)
 refine gS_ Tryz.func76 #[.string a0_0] ?_
 with_reducible refine (impl_AddressOk.calls k a0_0 true _ A3.out).mono ?_
 rintro e w' ⟨rfl, ⟨nd, rfl⟩⟩
 refine ⟨_, rfl, ?_⟩
 refine hK.out _ _ ⟨(blk_cell BK448.out 0).trans rfl, (blk_cell BK448.out 1).trans rfl, (blk_cell BK448.out 2).trans rfl, (blk_cell BK448.out 3).trans rfl, (blk_cell BK448.out 4).trans rfl⟩ (fun hHeld => ?_)
 clear hK K
 refine nS_ 7 ?_
 refine pS_ 3 ?_
 refine pS_ 4 ?_
 refine t5_ 5 hHeld ?_
 refine oS_ 6 (fun K hK => ?_)
 refine gS_ Tryz.func77 #[.slice A0_4 l0_4.length c0_4] ?_
 with_reducible refine (impl_TreeOk.calls k _ _ l0_4 true _ ?side1 ?side2 ?side3 A5.out).mono ?_
 (case side1 => refine EnvW.below HE.out ?_; repeat (first | (with_reducible first | exact HB.out | apply below_alloc | apply pw_below_drewN | apply below_drew1 | refine below_set ?_ GE448.out) | exact HB.out))
 (case side2 => repeat (first | exact (Kd.C_below HR0_4.out (bw1_ HB GE448)) | (with_reducible refine Kd.C_alloc ?_ _) | (with_reducible refine Kd.C_drewN ?_ _) | (with_reducible refine Kd.C_drew ?_)))
 (case side3 => exact HC0_4.out)
 rintro e w15 ⟨rfl, hb⟩
 refine ⟨_, rfl, ?_⟩
 replace BK448 := Aside0.mk (blk_below (bk_ BK448) hb)
 replace HB := Aside0.mk (below_step (bw1_ HB GE448) hb)
 (try clear hb)
 (try clear hb2)
 (try clear hk)
 (try clear hi)
 refine hK.out _ _ ⟨(blk_cell BK448.out 0).trans rfl, (blk_cell BK448.out 1).trans rfl, (blk_cell BK448.out 2).trans rfl, (blk_cell BK448.out 3).trans rfl, (blk_cell BK448.out 4).trans rfl⟩ (fun hHeld => ?_)
 clear hK K
 refine nS_ 11 ?_
 refine pS_ 7 ?_
 refine pS_ 8 ?_
 refine pS_ 9 ?_
 refine pS_ 11 ?_
 refine t5_ 10 hHeld ?_
 refine t5_ 12 hHeld ?_
 refine oS_ 13 (fun K hK => ?_)
 refine gS_ Tryz.func50 #[.slice A0_4 l0_4.length c0_4] ?_
 with_reducible refine (impl_TreeSum.calls k _ _ l0_4 t451 _ ?side1 ?side2 ?side3 A7.out).mono ?_
 (case side1 => refine EnvW.below HE.out ?_; repeat (first | (with_reducible first | exact HB.out | apply below_alloc | apply pw_below_drewN | apply below_drew1 | refine below_set ?_ GE448.out) | exact HB.out))
 (case side2 => exact cS_ HR0_4 HB)
 (case side3 => exact HC0_4.out)
 rintro e w16 ⟨rfl, hb⟩
 refine ⟨_, rfl, ?_⟩
 replace BK448 := Aside0.mk (blk_below (bk_ BK448) hb)
 replace HB := Aside0.mk (below_step (bw1_ HB GE448) hb)
 (try clear hb)
 (try clear hb2)
 (try clear hk)
 (try clear hi)
 refine hK.out _ _ ⟨(blk_cell BK448.out 0).trans rfl, (blk_cell BK448.out 1).trans rfl, (blk_cell BK448.out 2).trans rfl, (blk_cell BK448.out 3).trans rfl, (blk_cell BK448.out 4).trans rfl⟩ (fun hHeld => ?_)
 clear hK K
 refine nS_ 18 ?_
 refine pS_ 14 ?_
 refine pS_ 15 ?_
 refine pS_ 16 ?_
 refine pS_ 17 ?_
 refine pS_ 19 ?_
 refine pS_ 21 ?_
 refine t5_ 18 hHeld ?_
 refine t5_ 20 hHeld ?_
 refine oS_ 22 (fun K hK => ?_)
 refine gS_ Tryz.func52 #[.slice A0_4 l0_4.length c0_4, .slice A1 l1.length c1] ?_
 with_reducible refine (impl_RefsIn.calls k _ _ l0_4 _ _ l1 t452 _ ?side1 ?side2 ?side3 ?side4 ?side5 A9.out).mono ?_
 (case side1 => refine EnvW.below HE.out ?_; repeat (first | (with_reducible first | exact HB.out | apply below_alloc | apply pw_below_drewN | apply below_drew1 | refine below_set ?_ GE448.out) | exact HB.out))
 (case side2 => exact cS_ HR0_4 HB)
 (case side3 => exact HC0_4.out)
 (case side4 => exact cS_ HR1 HB)
 (case side5 => exact HC1.out)
 rintro e w17 ⟨v453, rfl, ho0, hb⟩
 refine ⟨_, rfl, ?_⟩
 have HO454 := Aside0.mk (Kd.R_lower ho0 (below_size (bw1_ HB GE448)))
 replace BK448 := Aside0.mk (blk_below (bk_ BK448) hb)
 replace HB := Aside0.mk (below_step (bw1_ HB GE448) hb)
 (try clear hb)
 (try clear hb2)
 (try clear hk)
 (try clear hi)
 (try clear ho0)
 obtain ⟨Ao18, co18, eo18⟩ := Kd.R_slice HO454.out
 (first | subst eo18 | (injection eo18 with f1_ f2_ f3_; have f4_ := f1_.symm; have f5_ := f3_.symm; clear f1_ f2_ f3_; subst f4_; subst f5_))
 refine hK.out _ _ ⟨(blk_cell BK448.out 0).trans rfl, (blk_cell BK448.out 1).trans rfl, (blk_cell BK448.out 2).trans rfl, (blk_cell BK448.out 3).trans rfl, (blk_cell BK448.out 4).trans rfl⟩ (fun hHeld => ?_)
 clear hK K
 refine nS_ 27 ?_
 refine oS_ 23 (fun K hK => ?_)
 refine gS_ Tryz.func85 #[.slice A0_2 l0_2.length c0_2, .slice Ao18 t452.length co18] ?_
 with_reducible refine (impl_sameTexts.calls k _ _ l0_2 _ _ t452 true _ ?side1 ?side2 ?side3 ?side4 A10.out).mono ?_
 (case side1 => exact cS_ HR0_2 HB)
 (case side2 => exact HC0_2.out)
 (case side3 => repeat (first | exact (Kd.R_reads' HO454.out).2.2 | (with_reducible refine Kd.C_alloc ?_ _) | (with_reducible refine Kd.C_drewN ?_ _) | (with_reducible refine Kd.C_drew ?_)))
 (case side4 => exact (Kd.R_reads' HO454.out).2.1)
 rintro e w' ⟨rfl, ⟨nd, rfl⟩⟩
 refine ⟨_, rfl, ?_⟩
 refine hK.out _ _ ⟨(blk_cell BK448.out 0).trans rfl, (blk_cell BK448.out 1).trans rfl, (blk_cell BK448.out 2).trans rfl, (blk_cell BK448.out 3).trans rfl, (blk_cell BK448.out 4).trans rfl⟩ (fun hHeld => ?_)
 clear hK K
 refine nS_ 28 ?_
 refine pS_ 24 ?_
 refine pS_ 25 ?_
 refine pS_ 26 ?_
 refine t5_ 27 hHeld ?_
 refine pS_ 28 ?_
 refine pS_ 29 ?_
 refine pU_ 30 ?_
 refine pU_ 31 ?_
 refine pU_ 32 ?_
 refine pS_ 33 ?_
 refine pS_ 34 ?_
 refine pS_ 35 ?_
 refine done_ (done_of HT_.out (by kernel_rfl)) ?_
 try go_wp2
 go_ret
 exact ⟨eR_, bw1_ HB GE448⟩}
 {
 rw [if_neg c12] at H
 have c12b0 : (a0_3.toList == ([] : List UInt8)) = false := beq_eq_false_iff_ne.mpr c12
 have c12b1 : (a0_3.toList != ([] : List UInt8)) = true := bne_iff_ne.mpr c12
 replace H := Option.bind_eq_some_iff.mp H
 obtain ⟨t456, A190, H⟩ := H
 have A19 := Aside0.mk A190
 clear A190
 obtain rfl := Option.some.inj H
 go_enter Tryz.func66, Tryz.ntmps66
 try go_wp2_with (first | ((with_reducible refine gate_dst (N := 2) rfl ?_); refine bE_ 2 #[.string a0_0, .string a0_1, .slice A0_2 l0_2.length c0_2, .string a0_3, .slice A0_4 l0_4.length c0_4] 55 ?_; intro gb448 hg w20 hbox hb; have BK448 := Aside0.mk (hbox); have GW448 := Aside0.mk (ge_ hg (bw_ HB)); have GE448 := Aside0.mk (ge_ hg (bw_ HB)); replace HB := Aside0.mk (below_step (bw_ HB) hb); clear hb hbox hg))
 replace BK448 := Aside0.mk (blk_drew BK448.out)
 replace HB := Aside0.mk (below_drew1 HB.out)
 refine start_ (n := 36) (S := fun w' => w'.cell? ⟨gb448, 0, none⟩ = some (.string a0_0) ∧ w'.cell? ⟨gb448, 1, none⟩ = some (.string a0_1) ∧ w'.cell? ⟨gb448, 2, none⟩ = some (.slice A0_2 l0_2.length c0_2) ∧ w'.cell? ⟨gb448, 3, none⟩ = some (.string a0_3) ∧ w'.cell? ⟨gb448, 4, none⟩ = some (.slice A0_4 l0_4.length c0_4)) (ds := []) (bs_ 36 0) (by kernel_rfl) rfl (by kernel_rfl) ⟨(blk_cell BK448.out 0).trans rfl, (blk_cell BK448.out 1).trans rfl, (blk_cell BK448.out 2).trans rfl, (blk_cell BK448.out 3).trans rfl, (blk_cell BK448.out 4).trans rfl⟩ (fun hHeld => ?_); refine with_tabW impl_itemOk.tab1 impl_itemOk.bits1 (fun HT_ HW_ => ?_)
 generalize w20.drew = w21 at BK448 HB hHeld ⊢
 refine pS_ 0 ?_
 refine t5_ 1 hHeld ?_
 refine oS_ 2 (fun K hK => ?_)
 refine gS_ Tryz.func76 #[.string a0_0] ?_
 with_reducible refine (impl_AddressOk.calls k a0_0 true _ A3.out).mono ?_
 rintro e w' ⟨rfl, ⟨nd, rfl⟩⟩
 refine ⟨_, rfl, ?_⟩
 refine hK.out _ _ ⟨(blk_cell BK448.out 0).trans rfl, (blk_cell BK448.out 1).trans rfl, (blk_cell BK448.out 2).trans rfl, (blk_cell BK448.out 3).trans rfl, (blk_cell BK448.out 4).trans rfl⟩ (fun hHeld => ?_)
 clear hK K
 refine nS_ 7 ?_
 refine pS_ 3 ?_
 refine pS_ 4 ?_
 refine t5_ 5 hHeld ?_
 refine oS_ 6 (fun K hK => ?_)
 refine gS_ Tryz.func77 #[.slice A0_4 l0_4.length c0_4] ?_
 with_reducible refine (impl_TreeOk.calls k _ _ l0_4 true _ ?side1 ?side2 ?side3 A5.out).mono ?_
 (case side1 => refine EnvW.below HE.out ?_; repeat (first | (with_reducible first | exact HB.out | apply below_alloc | apply pw_below_drewN | apply below_drew1 | refine below_set ?_ GE448.out) | exact HB.out))
 (case side2 => repeat (first | exact (Kd.C_below HR0_4.out (bw1_ HB GE448)) | (with_reducible refine Kd.C_alloc ?_ _) | (with_reducible refine Kd.C_drewN ?_ _) | (with_reducible refine Kd.C_drew ?_)))
 (case side3 => exact HC0_4.out)
 rintro e w22 ⟨rfl, hb⟩
 refine ⟨_, rfl, ?_⟩
 replace BK448 := Aside0.mk (blk_below (bk_ BK448) hb)
 replace HB := Aside0.mk (below_step (bw1_ HB GE448) hb)
 (try clear hb)
 (try clear hb2)
 (try clear hk)
 (try clear hi)
 refine hK.out _ _ ⟨(blk_cell BK448.out 0).trans rfl, (blk_cell BK448.out 1).trans rfl, (blk_cell BK448.out 2).trans rfl, (blk_cell BK448.out 3).trans rfl, (blk_cell BK448.out 4).trans rfl⟩ (fun hHeld => ?_)
 clear hK K
 refine nS_ 11 ?_
 refine pS_ 7 ?_
 refine pS_ 8 ?_
 refine pS_ 9 ?_
 refine pS_ 11 ?_
 refine t5_ 10 hHeld ?_
 refine t5_ 12 hHeld ?_
 refine oS_ 13 (fun K hK => ?_)
 refine gS_ Tryz.func50 #[.slice A0_4 l0_4.length c0_4] ?_
 with_reducible refine (impl_TreeSum.calls k _ _ l0_4 t451 _ ?side1 ?side2 ?side3 A7.out).mono ?_
 (case side1 => refine EnvW.below HE.out ?_; repeat (first | (with_reducible first | exact HB.out | apply below_alloc | apply pw_below_drewN | apply below_drew1 | refine below_set ?_ GE448.out) | exact HB.out))
 (case side2 => exact cS_ HR0_4 HB)
 (case side3 => exact HC0_4.out)
 rintro e w23 ⟨rfl, hb⟩
 refine ⟨_, rfl, ?_⟩
 replace BK448 := Aside0.mk (blk_below (bk_ BK448) hb)
 replace HB := Aside0.mk (below_step (bw1_ HB GE448) hb)
 (try clear hb)
 (try clear hb2)
 (try clear hk)
 (try clear hi)
 refine hK.out _ _ ⟨(blk_cell BK448.out 0).trans rfl, (blk_cell BK448.out 1).trans rfl, (blk_cell BK448.out 2).trans rfl, (blk_cell BK448.out 3).trans rfl, (blk_cell BK448.out 4).trans rfl⟩ (fun hHeld => ?_)
 clear hK K
 refine nS_ 18 ?_
 refine pS_ 14 ?_
 refine pS_ 15 ?_
 refine pS_ 16 ?_
 refine pS_ 17 ?_
 refine pS_ 19 ?_
 refine pS_ 21 ?_
 refine t5_ 18 hHeld ?_
 refine t5_ 20 hHeld ?_
 refine oS_ 22 (fun K hK => ?_)
 refine gS_ Tryz.func52 #[.slice A0_4 l0_4.length c0_4, .slice A1 l1.length c1] ?_
 with_reducible refine (impl_RefsIn.calls k _ _ l0_4 _ _ l1 t452 _ ?side1 ?side2 ?side3 ?side4 ?side5 A9.out).mono ?_
 (case side1 => refine EnvW.below HE.out ?_; repeat (first | (with_reducible first | exact HB.out | apply below_alloc | apply pw_below_drewN | apply below_drew1 | refine below_set ?_ GE448.out) | exact HB.out))
 (case side2 => exact cS_ HR0_4 HB)
 (case side3 => exact HC0_4.out)
 (case side4 => exact cS_ HR1 HB)
 (case side5 => exact HC1.out)
 rintro e w24 ⟨v453, rfl, ho0, hb⟩
 refine ⟨_, rfl, ?_⟩
 have HO454 := Aside0.mk (Kd.R_lower ho0 (below_size (bw1_ HB GE448)))
 replace BK448 := Aside0.mk (blk_below (bk_ BK448) hb)
 replace HB := Aside0.mk (below_step (bw1_ HB GE448) hb)
 (try clear hb)
 (try clear hb2)
 (try clear hk)
 (try clear hi)
 (try clear ho0)
 obtain ⟨Ao25, co25, eo25⟩ := Kd.R_slice HO454.out
 (first | subst eo25 | (injection eo25 with f1_ f2_ f3_; have f4_ := f1_.symm; have f5_ := f3_.symm; clear f1_ f2_ f3_; subst f4_; subst f5_))
 refine hK.out _ _ ⟨(blk_cell BK448.out 0).trans rfl, (blk_cell BK448.out 1).trans rfl, (blk_cell BK448.out 2).trans rfl, (blk_cell BK448.out 3).trans rfl, (blk_cell BK448.out 4).trans rfl⟩ (fun hHeld => ?_)
 clear hK K
 refine nS_ 27 ?_
 refine oS_ 23 (fun K hK => ?_)
 refine gS_ Tryz.func85 #[.slice A0_2 l0_2.length c0_2, .slice Ao25 t452.length co25] ?_
 with_reducible refine (impl_sameTexts.calls k _ _ l0_2 _ _ t452 true _ ?side1 ?side2 ?side3 ?side4 A10.out).mono ?_
 (case side1 => exact cS_ HR0_2 HB)
 (case side2 => exact HC0_2.out)
 (case side3 => repeat (first | exact (Kd.R_reads' HO454.out).2.2 | (with_reducible refine Kd.C_alloc ?_ _) | (with_reducible refine Kd.C_drewN ?_ _) | (with_reducible refine Kd.C_drew ?_)))
 (case side4 => exact (Kd.R_reads' HO454.out).2.1)
 rintro e w' ⟨rfl, ⟨nd, rfl⟩⟩
 refine ⟨_, rfl, ?_⟩
 refine hK.out _ _ ⟨(blk_cell BK448.out 0).trans rfl, (blk_cell BK448.out 1).trans rfl, (blk_cell BK448.out 2).trans rfl, (blk_cell BK448.out 3).trans rfl, (blk_cell BK448.out 4).trans rfl⟩ (fun hHeld => ?_)
 clear hK K
 refine nS_ 28 ?_
 refine pS_ 24 ?_
 refine pS_ 25 ?_
 refine pS_ 26 ?_
 refine t5_ 27 hHeld ?_
 refine pS_ 28 ?_
 refine pS_ 29 ?_
 refine pS_ 30 ?_
 refine t5_ 31 hHeld ?_
 refine oS_ 32 (fun K hK => ?_)
 refine gS_ Tryz.func76 #[.string a0_3] ?_
 with_reducible refine (impl_AddressOk.calls k a0_3 t456 _ A19.out).mono ?_
 rintro e w' ⟨rfl, ⟨nd, rfl⟩⟩
 refine ⟨_, rfl, ?_⟩
 refine hK.out _ _ ⟨(blk_cell BK448.out 0).trans rfl, (blk_cell BK448.out 1).trans rfl, (blk_cell BK448.out 2).trans rfl, (blk_cell BK448.out 3).trans rfl, (blk_cell BK448.out 4).trans rfl⟩ (fun hHeld => ?_)
 clear hK K
 refine nS_ 37 ?_
 refine pS_ 33 ?_
 refine pS_ 34 ?_
 refine pS_ 35 ?_
 refine done_ (done_of HT_.out (by kernel_rfl)) ?_
 try go_wp2
 go_ret
 exact ⟨eR_, bw1_ HB GE448⟩}}
 {
 replace c11 := Bool.eq_false_iff.mpr c11
 subst c11
 rw [if_neg (show ¬ (false = true) by decide)] at H
 obtain rfl := Option.some.inj H
 go_enter Tryz.func66, Tryz.ntmps66
 try go_wp2_with (first | ((with_reducible refine gate_dst (N := 2) rfl ?_); refine bE_ 2 #[.string a0_0, .string a0_1, .slice A0_2 l0_2.length c0_2, .string a0_3, .slice A0_4 l0_4.length c0_4] 55 ?_; intro gb448 hg w26 hbox hb; have BK448 := Aside0.mk (hbox); have GW448 := Aside0.mk (ge_ hg (bw_ HB)); have GE448 := Aside0.mk (ge_ hg (bw_ HB)); replace HB := Aside0.mk (below_step (bw_ HB) hb); clear hb hbox hg))
 replace BK448 := Aside0.mk (blk_drew BK448.out)
 replace HB := Aside0.mk (below_drew1 HB.out)
 refine start_ (n := 36) (S := fun w' => w'.cell? ⟨gb448, 0, none⟩ = some (.string a0_0) ∧ w'.cell? ⟨gb448, 1, none⟩ = some (.string a0_1) ∧ w'.cell? ⟨gb448, 2, none⟩ = some (.slice A0_2 l0_2.length c0_2) ∧ w'.cell? ⟨gb448, 3, none⟩ = some (.string a0_3) ∧ w'.cell? ⟨gb448, 4, none⟩ = some (.slice A0_4 l0_4.length c0_4)) (ds := []) (bs_ 36 0) (by kernel_rfl) rfl (by kernel_rfl) ⟨(blk_cell BK448.out 0).trans rfl, (blk_cell BK448.out 1).trans rfl, (blk_cell BK448.out 2).trans rfl, (blk_cell BK448.out 3).trans rfl, (blk_cell BK448.out 4).trans rfl⟩ (fun hHeld => ?_); refine with_tabW impl_itemOk.tab1 impl_itemOk.bits1 (fun HT_ HW_ => ?_)
 generalize w26.drew = w27 at BK448 HB hHeld ⊢
 refine pS_ 0 ?_
 refine t5_ 1 hHeld ?_
 refine oS_ 2 (fun K hK => ?_)
 refine gS_ Tryz.func76 #[.string a0_0] ?_
 with_reducible refine (impl_AddressOk.calls k a0_0 true _ A3.out).mono ?_
 rintro e w' ⟨rfl, ⟨nd, rfl⟩⟩
 refine ⟨_, rfl, ?_⟩
 refine hK.out _ _ ⟨(blk_cell BK448.out 0).trans rfl, (blk_cell BK448.out 1).trans rfl, (blk_cell BK448.out 2).trans rfl, (blk_cell BK448.out 3).trans rfl, (blk_cell BK448.out 4).trans rfl⟩ (fun hHeld => ?_)
 clear hK K
 refine nS_ 7 ?_
 refine pS_ 3 ?_
 refine pS_ 4 ?_
 refine t5_ 5 hHeld ?_
 refine oS_ 6 (fun K hK => ?_)
 refine gS_ Tryz.func77 #[.slice A0_4 l0_4.length c0_4] ?_
 with_reducible refine (impl_TreeOk.calls k _ _ l0_4 true _ ?side1 ?side2 ?side3 A5.out).mono ?_
 (case side1 => refine EnvW.below HE.out ?_; repeat (first | (with_reducible first | exact HB.out | apply below_alloc | apply pw_below_drewN | apply below_drew1 | refine below_set ?_ GE448.out) | exact HB.out))
 (case side2 => repeat (first | exact (Kd.C_below HR0_4.out (bw1_ HB GE448)) | (with_reducible refine Kd.C_alloc ?_ _) | (with_reducible refine Kd.C_drewN ?_ _) | (with_reducible refine Kd.C_drew ?_)))
 (case side3 => exact HC0_4.out)
 rintro e w28 ⟨rfl, hb⟩
 refine ⟨_, rfl, ?_⟩
 replace BK448 := Aside0.mk (blk_below (bk_ BK448) hb)
 replace HB := Aside0.mk (below_step (bw1_ HB GE448) hb)
 (try clear hb)
 (try clear hb2)
 (try clear hk)
 (try clear hi)
 refine hK.out _ _ ⟨(blk_cell BK448.out 0).trans rfl, (blk_cell BK448.out 1).trans rfl, (blk_cell BK448.out 2).trans rfl, (blk_cell BK448.out 3).trans rfl, (blk_cell BK448.out 4).trans rfl⟩ (fun hHeld => ?_)
 clear hK K
 refine nS_ 11 ?_
 refine pS_ 7 ?_
 refine pS_ 8 ?_
 refine pS_ 9 ?_
 refine pS_ 11 ?_
 refine t5_ 10 hHeld ?_
 refine t5_ 12 hHeld ?_
 refine oS_ 13 (fun K hK => ?_)
 refine gS_ Tryz.func50 #[.slice A0_4 l0_4.length c0_4] ?_
 with_reducible refine (impl_TreeSum.calls k _ _ l0_4 t451 _ ?side1 ?side2 ?side3 A7.out).mono ?_
 (case side1 => refine EnvW.below HE.out ?_; repeat (first | (with_reducible first | exact HB.out | apply below_alloc | apply pw_below_drewN | apply below_drew1 | refine below_set ?_ GE448.out) | exact HB.out))
 (case side2 => exact cS_ HR0_4 HB)
 (case side3 => exact HC0_4.out)
 rintro e w29 ⟨rfl, hb⟩
 refine ⟨_, rfl, ?_⟩
 replace BK448 := Aside0.mk (blk_below (bk_ BK448) hb)
 replace HB := Aside0.mk (below_step (bw1_ HB GE448) hb)
 (try clear hb)
 (try clear hb2)
 (try clear hk)
 (try clear hi)
 refine hK.out _ _ ⟨(blk_cell BK448.out 0).trans rfl, (blk_cell BK448.out 1).trans rfl, (blk_cell BK448.out 2).trans rfl, (blk_cell BK448.out 3).trans rfl, (blk_cell BK448.out 4).trans rfl⟩ (fun hHeld => ?_)
 clear hK K
 refine nS_ 18 ?_
 refine pS_ 14 ?_
 refine pS_ 15 ?_
 refine pS_ 16 ?_
 refine pS_ 17 ?_
 refine pS_ 19 ?_
 refine pS_ 21 ?_
 refine t5_ 18 hHeld ?_
 refine t5_ 20 hHeld ?_
 refine oS_ 22 (fun K hK => ?_)
 refine gS_ Tryz.func52 #[.slice A0_4 l0_4.length c0_4, .slice A1 l1.length c1] ?_
 with_reducible refine (impl_RefsIn.calls k _ _ l0_4 _ _ l1 t452 _ ?side1 ?side2 ?side3 ?side4 ?side5 A9.out).mono ?_
 (case side1 => refine EnvW.below HE.out ?_; repeat (first | (with_reducible first | exact HB.out | apply below_alloc | apply pw_below_drewN | apply below_drew1 | refine below_set ?_ GE448.out) | exact HB.out))
 (case side2 => exact cS_ HR0_4 HB)
 (case side3 => exact HC0_4.out)
 (case side4 => exact cS_ HR1 HB)
 (case side5 => exact HC1.out)
 rintro e w30 ⟨v453, rfl, ho0, hb⟩
 refine ⟨_, rfl, ?_⟩
 have HO454 := Aside0.mk (Kd.R_lower ho0 (below_size (bw1_ HB GE448)))
 replace BK448 := Aside0.mk (blk_below (bk_ BK448) hb)
 replace HB := Aside0.mk (below_step (bw1_ HB GE448) hb)
 (try clear hb)
 (try clear hb2)
 (try clear hk)
 (try clear hi)
 (try clear ho0)
 obtain ⟨Ao31, co31, eo31⟩ := Kd.R_slice HO454.out
 (first | subst eo31 | (injection eo31 with f1_ f2_ f3_; have f4_ := f1_.symm; have f5_ := f3_.symm; clear f1_ f2_ f3_; subst f4_; subst f5_))
 refine hK.out _ _ ⟨(blk_cell BK448.out 0).trans rfl, (blk_cell BK448.out 1).trans rfl, (blk_cell BK448.out 2).trans rfl, (blk_cell BK448.out 3).trans rfl, (blk_cell BK448.out 4).trans rfl⟩ (fun hHeld => ?_)
 clear hK K
 refine nS_ 27 ?_
 refine oS_ 23 (fun K hK => ?_)
 refine gS_ Tryz.func85 #[.slice A0_2 l0_2.length c0_2, .slice Ao31 t452.length co31] ?_
 with_reducible refine (impl_sameTexts.calls k _ _ l0_2 _ _ t452 false _ ?side1 ?side2 ?side3 ?side4 A10.out).mono ?_
 (case side1 => exact cS_ HR0_2 HB)
 (case side2 => exact HC0_2.out)
 (case side3 => repeat (first | exact (Kd.R_reads' HO454.out).2.2 | (with_reducible refine Kd.C_alloc ?_ _) | (with_reducible refine Kd.C_drewN ?_ _) | (with_reducible refine Kd.C_drew ?_)))
 (case side4 => exact (Kd.R_reads' HO454.out).2.1)
 rintro e w' ⟨rfl, ⟨nd, rfl⟩⟩
 refine ⟨_, rfl, ?_⟩
 refine hK.out _ _ ⟨(blk_cell BK448.out 0).trans rfl, (blk_cell BK448.out 1).trans rfl, (blk_cell BK448.out 2).trans rfl, (blk_cell BK448.out 3).trans rfl, (blk_cell BK448.out 4).trans rfl⟩ (fun hHeld => ?_)
 clear hK K
 refine nS_ 28 ?_
 refine pS_ 24 ?_
 refine pS_ 25 ?_
 refine pU_ 26 ?_
 refine pU_ 27 ?_
 refine pU_ 28 ?_
 refine pU_ 29 ?_
 refine pU_ 30 ?_
 refine pU_ 31 ?_
 refine pU_ 32 ?_
 refine pU_ 33 ?_
 refine pS_ 34 ?_
 refine pS_ 35 ?_
 refine done_ (done_of HT_.out (by kernel_rfl)) ?_
 try go_wp2
 go_ret
 exact ⟨eR_, bw1_ HB GE448⟩}}
 {
 rw [if_neg c8] at H
 have c8b0 : (a0_1.toList == t451.toList) = false := beq_eq_false_iff_ne.mpr c8
 have c8b1 : (a0_1.toList != t451.toList) = true := bne_iff_ne.mpr c8
 obtain rfl := Option.some.inj H
 go_enter Tryz.func66, Tryz.ntmps66
 try go_wp2_with (first | ((with_reducible refine gate_dst (N := 2) rfl ?_); refine bE_ 2 #[.string a0_0, .string a0_1, .slice A0_2 l0_2.length c0_2, .string a0_3, .slice A0_4 l0_4.length c0_4] 55 ?_; intro gb448 hg w32 hbox hb; have BK448 := Aside0.mk (hbox); have GW448 := Aside0.mk (ge_ hg (bw_ HB)); have GE448 := Aside0.mk (ge_ hg (bw_ HB)); replace HB := Aside0.mk (below_step (bw_ HB) hb); clear hb hbox hg))
 replace BK448 := Aside0.mk (blk_drew BK448.out)
 replace HB := Aside0.mk (below_drew1 HB.out)
 refine start_ (n := 36) (S := fun w' => w'.cell? ⟨gb448, 0, none⟩ = some (.string a0_0) ∧ w'.cell? ⟨gb448, 1, none⟩ = some (.string a0_1) ∧ w'.cell? ⟨gb448, 2, none⟩ = some (.slice A0_2 l0_2.length c0_2) ∧ w'.cell? ⟨gb448, 3, none⟩ = some (.string a0_3) ∧ w'.cell? ⟨gb448, 4, none⟩ = some (.slice A0_4 l0_4.length c0_4)) (ds := []) (bs_ 36 0) (by kernel_rfl) rfl (by kernel_rfl) ⟨(blk_cell BK448.out 0).trans rfl, (blk_cell BK448.out 1).trans rfl, (blk_cell BK448.out 2).trans rfl, (blk_cell BK448.out 3).trans rfl, (blk_cell BK448.out 4).trans rfl⟩ (fun hHeld => ?_); refine with_tabW impl_itemOk.tab1 impl_itemOk.bits1 (fun HT_ HW_ => ?_)
 generalize w32.drew = w33 at BK448 HB hHeld ⊢
 refine pS_ 0 ?_
 refine t5_ 1 hHeld ?_
 refine oS_ 2 (fun K hK => ?_)
 refine gS_ Tryz.func76 #[.string a0_0] ?_
 with_reducible refine (impl_AddressOk.calls k a0_0 true _ A3.out).mono ?_
 rintro e w' ⟨rfl, ⟨nd, rfl⟩⟩
 refine ⟨_, rfl, ?_⟩
 refine hK.out _ _ ⟨(blk_cell BK448.out 0).trans rfl, (blk_cell BK448.out 1).trans rfl, (blk_cell BK448.out 2).trans rfl, (blk_cell BK448.out 3).trans rfl, (blk_cell BK448.out 4).trans rfl⟩ (fun hHeld => ?_)
 clear hK K
 refine nS_ 7 ?_
 refine pS_ 3 ?_
 refine pS_ 4 ?_
 refine t5_ 5 hHeld ?_
 refine oS_ 6 (fun K hK => ?_)
 refine gS_ Tryz.func77 #[.slice A0_4 l0_4.length c0_4] ?_
 with_reducible refine (impl_TreeOk.calls k _ _ l0_4 true _ ?side1 ?side2 ?side3 A5.out).mono ?_
 (case side1 => refine EnvW.below HE.out ?_; repeat (first | (with_reducible first | exact HB.out | apply below_alloc | apply pw_below_drewN | apply below_drew1 | refine below_set ?_ GE448.out) | exact HB.out))
 (case side2 => repeat (first | exact (Kd.C_below HR0_4.out (bw1_ HB GE448)) | (with_reducible refine Kd.C_alloc ?_ _) | (with_reducible refine Kd.C_drewN ?_ _) | (with_reducible refine Kd.C_drew ?_)))
 (case side3 => exact HC0_4.out)
 rintro e w34 ⟨rfl, hb⟩
 refine ⟨_, rfl, ?_⟩
 replace BK448 := Aside0.mk (blk_below (bk_ BK448) hb)
 replace HB := Aside0.mk (below_step (bw1_ HB GE448) hb)
 (try clear hb)
 (try clear hb2)
 (try clear hk)
 (try clear hi)
 refine hK.out _ _ ⟨(blk_cell BK448.out 0).trans rfl, (blk_cell BK448.out 1).trans rfl, (blk_cell BK448.out 2).trans rfl, (blk_cell BK448.out 3).trans rfl, (blk_cell BK448.out 4).trans rfl⟩ (fun hHeld => ?_)
 clear hK K
 refine nS_ 11 ?_
 refine pS_ 7 ?_
 refine pS_ 8 ?_
 refine pS_ 9 ?_
 refine pS_ 11 ?_
 refine t5_ 10 hHeld ?_
 refine t5_ 12 hHeld ?_
 refine oS_ 13 (fun K hK => ?_)
 refine gS_ Tryz.func50 #[.slice A0_4 l0_4.length c0_4] ?_
 with_reducible refine (impl_TreeSum.calls k _ _ l0_4 t451 _ ?side1 ?side2 ?side3 A7.out).mono ?_
 (case side1 => refine EnvW.below HE.out ?_; repeat (first | (with_reducible first | exact HB.out | apply below_alloc | apply pw_below_drewN | apply below_drew1 | refine below_set ?_ GE448.out) | exact HB.out))
 (case side2 => exact cS_ HR0_4 HB)
 (case side3 => exact HC0_4.out)
 rintro e w35 ⟨rfl, hb⟩
 refine ⟨_, rfl, ?_⟩
 replace BK448 := Aside0.mk (blk_below (bk_ BK448) hb)
 replace HB := Aside0.mk (below_step (bw1_ HB GE448) hb)
 (try clear hb)
 (try clear hb2)
 (try clear hk)
 (try clear hi)
 refine hK.out _ _ ⟨(blk_cell BK448.out 0).trans rfl, (blk_cell BK448.out 1).trans rfl, (blk_cell BK448.out 2).trans rfl, (blk_cell BK448.out 3).trans rfl, (blk_cell BK448.out 4).trans rfl⟩ (fun hHeld => ?_)
 clear hK K
 refine nS_ 18 ?_
 refine pS_ 14 ?_
 refine pS_ 15 ?_
 refine pS_ 16 ?_
 refine pU_ 17 ?_
 refine pU_ 18 ?_
 refine pU_ 19 ?_
 refine pU_ 20 ?_
 refine pU_ 21 ?_
 refine pU_ 22 ?_
 refine pU_ 23 ?_
 refine pS_ 24 ?_
 refine pS_ 25 ?_
 refine pU_ 26 ?_
 refine pU_ 27 ?_
 refine pU_ 28 ?_
 refine pU_ 29 ?_
 refine pU_ 30 ?_
 refine pU_ 31 ?_
 refine pU_ 32 ?_
 refine pU_ 33 ?_
 refine pS_ 34 ?_
 refine pS_ 35 ?_
 refine done_ (done_of HT_.out (by kernel_rfl)) ?_
 try go_wp2
 go_ret
 exact ⟨eR_, bw1_ HB GE448⟩}}
 {
 replace c6 := Bool.eq_false_iff.mpr c6
 subst c6
 rw [if_neg (show ¬ (false = true) by decide)] at H
 obtain rfl := Option.some.inj H
 go_enter Tryz.func66, Tryz.ntmps66
 try go_wp2_with (first | ((with_reducible refine gate_dst (N := 2) rfl ?_); refine bE_ 2 #[.string a0_0, .string a0_1, .slice A0_2 l0_2.length c0_2, .string a0_3, .slice A0_4 l0_4.length c0_4] 55 ?_; intro gb448 hg w36 hbox hb; have BK448 := Aside0.mk (hbox); have GW448 := Aside0.mk (ge_ hg (bw_ HB)); have GE448 := Aside0.mk (ge_ hg (bw_ HB)); replace HB := Aside0.mk (below_step (bw_ HB) hb); clear hb hbox hg))
 replace BK448 := Aside0.mk (blk_drew BK448.out)
 replace HB := Aside0.mk (below_drew1 HB.out)
 refine start_ (n := 36) (S := fun w' => w'.cell? ⟨gb448, 0, none⟩ = some (.string a0_0) ∧ w'.cell? ⟨gb448, 1, none⟩ = some (.string a0_1) ∧ w'.cell? ⟨gb448, 2, none⟩ = some (.slice A0_2 l0_2.length c0_2) ∧ w'.cell? ⟨gb448, 3, none⟩ = some (.string a0_3) ∧ w'.cell? ⟨gb448, 4, none⟩ = some (.slice A0_4 l0_4.length c0_4)) (ds := []) (bs_ 36 0) (by kernel_rfl) rfl (by kernel_rfl) ⟨(blk_cell BK448.out 0).trans rfl, (blk_cell BK448.out 1).trans rfl, (blk_cell BK448.out 2).trans rfl, (blk_cell BK448.out 3).trans rfl, (blk_cell BK448.out 4).trans rfl⟩ (fun hHeld => ?_); refine with_tabW impl_itemOk.tab1 impl_itemOk.bits1 (fun HT_ HW_ => ?_)
 generalize w36.drew = w37 at BK448 HB hHeld ⊢
 refine pS_ 0 ?_
 refine t5_ 1 hHeld ?_
 refine oS_ 2 (fun K hK => ?_)
 refine gS_ Tryz.func76 #[.string a0_0] ?_
 with_reducible refine (impl_AddressOk.calls k a0_0 true _ A3.out).mono ?_
 rintro e w' ⟨rfl, ⟨nd, rfl⟩⟩
 refine ⟨_, rfl, ?_⟩
 refine hK.out _ _ ⟨(blk_cell BK448.out 0).trans rfl, (blk_cell BK448.out 1).trans rfl, (blk_cell BK448.out 2).trans rfl, (blk_cell BK448.out 3).trans rfl, (blk_cell BK448.out 4).trans rfl⟩ (fun hHeld => ?_)
 clear hK K
 refine nS_ 7 ?_
 refine pS_ 3 ?_
 refine pS_ 4 ?_
 refine t5_ 5 hHeld ?_
 refine oS_ 6 (fun K hK => ?_)
 refine gS_ Tryz.func77 #[.slice A0_4 l0_4.length c0_4] ?_
 with_reducible refine (impl_TreeOk.calls k _ _ l0_4 false _ ?side1 ?side2 ?side3 A5.out).mono ?_
 (case side1 => refine EnvW.below HE.out ?_; repeat (first | (with_reducible first | exact HB.out | apply below_alloc | apply pw_below_drewN | apply below_drew1 | refine below_set ?_ GE448.out) | exact HB.out))
 (case side2 => repeat (first | exact (Kd.C_below HR0_4.out (bw1_ HB GE448)) | (with_reducible refine Kd.C_alloc ?_ _) | (with_reducible refine Kd.C_drewN ?_ _) | (with_reducible refine Kd.C_drew ?_)))
 (case side3 => exact HC0_4.out)
 rintro e w38 ⟨rfl, hb⟩
 refine ⟨_, rfl, ?_⟩
 replace BK448 := Aside0.mk (blk_below (bk_ BK448) hb)
 replace HB := Aside0.mk (below_step (bw1_ HB GE448) hb)
 (try clear hb)
 (try clear hb2)
 (try clear hk)
 (try clear hi)
 refine hK.out _ _ ⟨(blk_cell BK448.out 0).trans rfl, (blk_cell BK448.out 1).trans rfl, (blk_cell BK448.out 2).trans rfl, (blk_cell BK448.out 3).trans rfl, (blk_cell BK448.out 4).trans rfl⟩ (fun hHeld => ?_)
 clear hK K
 refine nS_ 11 ?_
 refine pS_ 7 ?_
 refine pS_ 8 ?_
 refine pU_ 9 ?_
 refine pU_ 10 ?_
 refine pU_ 11 ?_
 refine pU_ 12 ?_
 refine pU_ 13 ?_
 refine pU_ 14 ?_
 refine pS_ 15 ?_
 refine pS_ 16 ?_
 refine pU_ 17 ?_
 refine pU_ 18 ?_
 refine pU_ 19 ?_
 refine pU_ 20 ?_
 refine pU_ 21 ?_
 refine pU_ 22 ?_
 refine pU_ 23 ?_
 refine pS_ 24 ?_
 refine pS_ 25 ?_
 refine pU_ 26 ?_
 refine pU_ 27 ?_
 refine pU_ 28 ?_
 refine pU_ 29 ?_
 refine pU_ 30 ?_
 refine pU_ 31 ?_
 refine pU_ 32 ?_
 refine pU_ 33 ?_
 refine pS_ 34 ?_
 refine pS_ 35 ?_
 refine done_ (done_of HT_.out (by kernel_rfl)) ?_
 try go_wp2
 go_ret
 exact ⟨eR_, bw1_ HB GE448⟩}}
 {
 replace c4 := Bool.eq_false_iff.mpr c4
 subst c4
 rw [if_neg (show ¬ (false = true) by decide)] at H
 obtain rfl := Option.some.inj H
 go_enter Tryz.func66, Tryz.ntmps66
 try go_wp2_with (first | ((with_reducible refine gate_dst (N := 2) rfl ?_); refine bE_ 2 #[.string a0_0, .string a0_1, .slice A0_2 l0_2.length c0_2, .string a0_3, .slice A0_4 l0_4.length c0_4] 55 ?_; intro gb448 hg w39 hbox hb; have BK448 := Aside0.mk (hbox); have GW448 := Aside0.mk (ge_ hg (bw_ HB)); have GE448 := Aside0.mk (ge_ hg (bw_ HB)); replace HB := Aside0.mk (below_step (bw_ HB) hb); clear hb hbox hg))
 replace BK448 := Aside0.mk (blk_drew BK448.out)
 replace HB := Aside0.mk (below_drew1 HB.out)
 refine start_ (n := 36) (S := fun w' => w'.cell? ⟨gb448, 0, none⟩ = some (.string a0_0) ∧ w'.cell? ⟨gb448, 1, none⟩ = some (.string a0_1) ∧ w'.cell? ⟨gb448, 2, none⟩ = some (.slice A0_2 l0_2.length c0_2) ∧ w'.cell? ⟨gb448, 3, none⟩ = some (.string a0_3) ∧ w'.cell? ⟨gb448, 4, none⟩ = some (.slice A0_4 l0_4.length c0_4)) (ds := []) (bs_ 36 0) (by kernel_rfl) rfl (by kernel_rfl) ⟨(blk_cell BK448.out 0).trans rfl, (blk_cell BK448.out 1).trans rfl, (blk_cell BK448.out 2).trans rfl, (blk_cell BK448.out 3).trans rfl, (blk_cell BK448.out 4).trans rfl⟩ (fun hHeld => ?_); refine with_tabW impl_itemOk.tab1 impl_itemOk.bits1 (fun HT_ HW_ => ?_)
 generalize w39.drew = w40 at BK448 HB hHeld ⊢
 refine pS_ 0 ?_
 refine t5_ 1 hHeld ?_
 refine oS_ 2 (fun K hK => ?_)
 refine gS_ Tryz.func76 #[.string a0_0] ?_
 with_reducible refine (impl_AddressOk.calls k a0_0 false _ A3.out).mono ?_
 rintro e w' ⟨rfl, ⟨nd, rfl⟩⟩
 refine ⟨_, rfl, ?_⟩
 refine hK.out _ _ ⟨(blk_cell BK448.out 0).trans rfl, (blk_cell BK448.out 1).trans rfl, (blk_cell BK448.out 2).trans rfl, (blk_cell BK448.out 3).trans rfl, (blk_cell BK448.out 4).trans rfl⟩ (fun hHeld => ?_)
 clear hK K
 refine nS_ 7 ?_
 refine pS_ 3 ?_
 refine pU_ 4 ?_
 refine pU_ 5 ?_
 refine pU_ 6 ?_
 refine pS_ 7 ?_
 refine pS_ 8 ?_
 refine pU_ 9 ?_
 refine pU_ 10 ?_
 refine pU_ 11 ?_
 refine pU_ 12 ?_
 refine pU_ 13 ?_
 refine pU_ 14 ?_
 refine pS_ 15 ?_
 refine pS_ 16 ?_
 refine pU_ 17 ?_
 refine pU_ 18 ?_
 refine pU_ 19 ?_
 refine pU_ 20 ?_
 refine pU_ 21 ?_
 refine pU_ 22 ?_
 refine pU_ 23 ?_
 refine pS_ 24 ?_
 refine pS_ 25 ?_
 refine pU_ 26 ?_
 refine pU_ 27 ?_
 refine pU_ 28 ?_
 refine pU_ 29 ?_
 refine pU_ 30 ?_
 refine pU_ 31 ?_
 refine pU_ 32 ?_
 refine pU_ 33 ?_
 refine pS_ 34 ?_
 refine pS_ 35 ?_
 refine done_ (done_of HT_.out (by kernel_rfl)) ?_
 try go_wp2
 go_ret
 exact ⟨eR_, bw1_ HB GE448⟩
}
end Go.Proofs.YtikjbfjnbhaljaaGreatDoor.P
end

section
namespace Go.Proofs.YtikjbfjnbhaljaaGreatDoor.P
open Go.RowKit Go.Proofs.YtikjbfjnbhaljaaGreatDoorW.PrintWords Go.Proofs.YtikjbfjnbhaljaaGreatDoorW.PrintLast Go.Proofs.YtikjbfjnbhaljaaGreatDoorW.PrintMore Go.Proofs.YtikjbfjnbhaljaaGreatDoorM
attribute [local go_sem] max2_int min2_int max_two min_two max_three min_three max_four min_four
set_option linter.unusedVariables false
set_option linter.unusedSimpArgs false
def spec_l12SameTexts.l0 : Nat → List ByteArray → List ByteArray → Int → Option (Bool)
 | 0, _, _, _ => none
 | k + 1, x0, x1, x5 => if x5 < (x0.length : Int) then (if 0 ≤ x5 then (if x5 < (x1.length : Int) then (if (rdOf ByteArray.empty x0 x5).toList = (rdOf ByteArray.empty x1 x5).toList then (spec_l12SameTexts.l0 k x0 x1 (wrap64 (x5 + 1))) else (some false)) else (none)) else (none)) else (some true)
def spec_l12SameTexts.f (k : Nat) (l0 : List ByteArray) (l1 : List ByteArray) : Option (Bool) := if (l0.length : Int) = (l1.length : Int) then (spec_l12SameTexts.l0 k l0 l1 0) else (some false)
set_option maxHeartbeats 8000000 in
set_option maxRecDepth 100000 in
theorem spec_l12SameTexts.calls (k : Nat) (A0 : Option Addr) (c0 : Nat) (l0 : List ByteArray) (A1 : Option Addr) (c1 : Nat) (l1 : List ByteArray) (r : Bool) (w : World) (hr0 : Kd.C Kd.string w A0 l0.length l0) (hc0 : l0.length ≤ c0) (hr1 : Kd.C Kd.string w A1 l1.length l1) (hc1 : l1.length ≤ c1) (h : spec_l12SameTexts.f k l0 l1 = some r) :
 Calls Tryz.prog 84 #[.slice A0 l0.length c0, .slice A1 l1.length c1] w fun e w' => e = .returned (.bool r) ∧ Drawn0 w w' := by
 have HR0 := Aside0.mk hr0
 have HC0 := Aside0.mk hc0
 clear hr0 hc0
 have HR1 := Aside0.mk hr1
 have HC1 := Aside0.mk hc1
 clear hr1 hc1
 have H : (if (l0.length : Int) = (l1.length : Int) then (spec_l12SameTexts.l0 k l0 l1 0) else (some false)) = some r := h
 clear h
 by_cases c3 : (l0.length : Int) = (l1.length : Int)
 {
 rw [if_pos c3] at H
 have c3b0 : ((l0.length : Int) == (l1.length : Int)) = true := beq_iff_eq.mpr c3
 have c3b1 : ((l0.length : Int) != (l1.length : Int)) = false := bne_eq_false_iff_eq.mpr c3
 have c3b2 : (l0.length == l1.length) = true := by first | simpa using c3 | (simp at c3 ⊢; omega)
 clear c3
 have H' := Aside0.mk H
 clear H
 go_enter Tryz.func84, Tryz.ntmps84
 go_wp2
 repeat (go_quiet (fail); try go_wp2)
 go_loopg [5] k (fun kq v5 w' => ∃ (x5_1 : Int), v5 = .int .i64 x5_1 ∧ Aside0 (spec_l12SameTexts.l0 kq l0 l1 x5_1 = some r) ∧ Aside0 (kq ≤ k) ∧ Drawn0 w w')
 case atStart => exact ⟨(0), (by first | rfl | (simp; done) | (simp [*]; done)), H', ⟨Nat.le_refl _⟩, dR_⟩
 case round =>
  clear H'
  try clear c1
  try clear p2
  try clear c3
  try clear c3b0
  try clear c3b1
  try clear c3b2
  obtain ⟨x5_1, rfl, HA, HK1, ⟨m1, rfl⟩⟩ := hrel
  cases gk with
  | zero => exact absurd HA.out (by simp [spec_l12SameTexts.l0])
  | succ k1 =>
   have H := HA.out
   clear HA
   simp only [spec_l12SameTexts.l0] at H
   by_cases c4 : x5_1 < (l0.length : Int)
   {
   rw [if_pos c4] at H
   have c4b0 := decide_eq_true c4
   clear c4
   by_cases c5 : 0 ≤ x5_1
   {
   rw [if_pos c5] at H
   have c5b0 := decide_eq_true c5
   clear c5
   by_cases c6 : x5_1 < (l1.length : Int)
   {
   rw [if_pos c6] at H
   have c6b0 := decide_eq_true c6
   clear c6
   by_cases c7 : (rdOf ByteArray.empty l0 x5_1).toList = (rdOf ByteArray.empty l1 x5_1).toList
   {
   rw [if_pos c7] at H
   have c7b0 : ((rdOf ByteArray.empty l0 x5_1).toList == (rdOf ByteArray.empty l1 x5_1).toList) = true := beq_iff_eq.mpr c7
   have c7b1 : ((rdOf ByteArray.empty l0 x5_1).toList != (rdOf ByteArray.empty l1 x5_1).toList) = false := bne_eq_false_iff_eq.mpr c7
   clear c7
   have H' := Aside0.mk H
   clear H
   have p265 : 0 ≤ (x5_1 : Int) := dA_
   have q265 : x5_1 < (l0.length : Int) := dA_
   obtain ⟨ad265, e265, hx265_0⟩ := Kd.at_string HR0.out x5_1 p265 q265
   cases e265
   replace p265 := eq_true p265
   replace q265 := eq_true q265
   have p266 : 0 ≤ (x5_1 : Int) := dA_
   have q266 : x5_1 < (l1.length : Int) := dA_
   obtain ⟨ad266, e266, hx266_0⟩ := Kd.at_string HR1.out x5_1 p266 q266
   cases e266
   replace p266 := eq_true p266
   replace q266 := eq_true q266
   go_wp2
   repeat (go_quiet (fail); try go_wp2)
   go_roundg k1
   case measure => have := HK1.out; omega
   case rel => exact ⟨(wrap64 (x5_1 + 1)), (by first | rfl | (simp; done) | (simp [*]; done)), H', ⟨by have := HK1.out; omega⟩, dR_⟩}
   {
   rw [if_neg c7] at H
   have c7b0 : ((rdOf ByteArray.empty l0 x5_1).toList == (rdOf ByteArray.empty l1 x5_1).toList) = false := beq_eq_false_iff_ne.mpr c7
   have c7b1 : ((rdOf ByteArray.empty l0 x5_1).toList != (rdOf ByteArray.empty l1 x5_1).toList) = true := bne_iff_ne.mpr c7
   obtain rfl := Option.some.inj H
   have p265 : 0 ≤ (x5_1 : Int) := dA_
   have q265 : x5_1 < (l0.length : Int) := dA_
   obtain ⟨ad265, e265, hx265_0⟩ := Kd.at_string HR0.out x5_1 p265 q265
   cases e265
   replace p265 := eq_true p265
   replace q265 := eq_true q265
   have p266 : 0 ≤ (x5_1 : Int) := dA_
   have q266 : x5_1 < (l1.length : Int) := dA_
   obtain ⟨ad266, e266, hx266_0⟩ := Kd.at_string HR1.out x5_1 p266 q266
   cases e266
   replace p266 := eq_true p266
   replace q266 := eq_true q266
   go_wp2
   repeat (go_quiet (fail); try go_wp2)
   go_ret
   exact ⟨eS_, dR_⟩}}
   {
   rw [if_neg c6] at H
   exact absurd H (by simp)}}
   {
   rw [if_neg c5] at H
   exact absurd H (by simp)}}
   {
   rw [if_neg c4] at H
   have c4b0 := decide_eq_false c4
   clear c4
   obtain rfl := Option.some.inj H
   go_wp2
   repeat (go_quiet (fail); try go_wp2)
   go_ret
   exact ⟨eS_, dR_⟩}}
 {
 rw [if_neg c3] at H
 have c3b0 : ((l0.length : Int) == (l1.length : Int)) = false := beq_eq_false_iff_ne.mpr c3
 have c3b1 : ((l0.length : Int) != (l1.length : Int)) = true := bne_iff_ne.mpr c3
 have c3b2 : (l0.length == l1.length) = false := by first | simpa using c3 | (simp at c3 ⊢; omega)
 obtain rfl := Option.some.inj H
 go_enter Tryz.func84, Tryz.ntmps84
 go_wp2
 repeat (go_quiet (fail); try go_wp2)
 go_ret
 exact ⟨eS_, dR_⟩
}
end Go.Proofs.YtikjbfjnbhaljaaGreatDoor.P
end

section
namespace Go.Proofs.YtikjbfjnbhaljaaGreatDoor.P
open Go.RowKit Go.Proofs.YtikjbfjnbhaljaaGreatDoorW.PrintWords Go.Proofs.YtikjbfjnbhaljaaGreatDoorW.PrintLast Go.Proofs.YtikjbfjnbhaljaaGreatDoorW.PrintMore Go.Proofs.YtikjbfjnbhaljaaGreatDoorM
attribute [local go_sem] max2_int min2_int max_two min_two max_three min_three max_four min_four
set_option linter.unusedVariables false
set_option linter.unusedSimpArgs false
def spec_l12ItemOk.f (k : Nat) (a0_0 : ByteArray) (a0_1 : ByteArray) (l0_2 : List ByteArray) (a0_3 : ByteArray) (l0_4 : List (S57)) (l1 : List ByteArray) : Option (Bool) := (spec_AddressOk.f k a0_0).bind fun t268 => (if t268 = true then ((spec_TreeOk.f k l0_4).bind fun t269 => (if t269 = true then ((spec_TreeSum.f k l0_4).bind fun t270 => (if a0_1.toList = t270.toList then (if a0_3.toList = ([] : List UInt8) then ((spec_l10Refs.f k l0_4 l1).bind fun t271 => ((spec_l12SameTexts.f k l0_2 t271).bind fun t274 => (some t274))) else ((spec_AddressOk.f k a0_3).bind fun t275 => (if t275 = true then ((spec_l10Refs.f k l0_4 l1).bind fun t276 => ((spec_l12SameTexts.f k l0_2 t276).bind fun t279 => (some t279))) else (some false)))) else (some false))) else (some false))) else (some false))
def spec_l12ItemOk.T1 : Bool × List (List Nat × List Nat) := (true, [([], []), ([0], [0]), ([1], [1]), ([2, 2], [2]), ([3], [3]), ([4, 3], [3, 4]), ([5, 3, 3], [3, 5]), ([3, 6], [3, 6]), ([7, 6], [7]), ([8], [8]), ([9, 8], [8, 9]), ([8], [8]), ([11, 8], [8, 11]), ([12, 8, 8], [8, 12]), ([10, 13, 8], [8, 10, 13]), ([8, 14], [8, 14]), ([15, 13], [15]), ([16], [16]), ([17, 16], [16, 17]), ([18, 16], [16, 18]), ([19, 16, 16], [16, 19]), ([20], [20]), ([21, 20], [20, 21]), ([22, 20, 20], [20, 22]), ([20, 23, 16], [16, 20, 23]), ([16, 24], [16, 24]), ([25, 23], [25]), ([26], [26]), ([27, 26], [26, 27]), ([26], [26]), ([29, 26], [26, 29]), ([26], [26]), ([30, 31, 26, 26], [26, 30, 31]), ([28, 32, 32, 26], [26, 28, 32]), ([26, 33], [26, 33]), ([34, 33, 0, 1, 2, 3, 4, 5, 6, 7, 8, 9, 10, 11, 12, 13, 14, 15, 16, 17, 18, 19, 20, 21, 22, 23, 24, 25, 26, 27, 28, 29, 30, 31, 32, 33, 34], [34])])
def spec_l12ItemOk.B1 : List Nat := [0, 1, 3, 7, 15, 31, 63, 127, 255, 511, 1023, 511, 2559, 6655, 16383, 32767, 65535, 131071, 262143, 524287, 1048575, 2097151, 4194303, 8388607, 16777215, 33554431, 67108863, 134217727, 268435455, 134217727, 671088639, 134217727, 3892314111, 8589934591, 17179869183, 34359738367]
theorem spec_l12ItemOk.tab1 : rtab .any (opsOf Tryz.f64 1) = spec_l12ItemOk.T1 := by kernel_rfl
theorem spec_l12ItemOk.bits1 : waitsOk spec_l12ItemOk.T1.2 spec_l12ItemOk.B1 = true := by kernel_rfl
set_option maxHeartbeats 8000000 in
set_option maxRecDepth 100000 in
theorem spec_l12ItemOk.calls (k : Nat) (a0_0 : ByteArray) (a0_1 : ByteArray) (A0_2 : Option Addr) (c0_2 : Nat) (l0_2 : List ByteArray) (a0_3 : ByteArray) (A0_4 : Option Addr) (c0_4 : Nat) (l0_4 : List (S57)) (A1 : Option Addr) (c1 : Nat) (l1 : List ByteArray) (r : Bool) (w : World) (hr0_2 : Kd.C Kd.string w A0_2 l0_2.length l0_2) (hc0_2 : l0_2.length ≤ c0_2) (hr0_4 : Kd.C k57 w A0_4 l0_4.length l0_4) (hc0_4 : l0_4.length ≤ c0_4) (hr1 : Kd.C Kd.string w A1 l1.length l1) (hc1 : l1.length ≤ c1) (h : spec_l12ItemOk.f k a0_0 a0_1 l0_2 a0_3 l0_4 l1 = some r) :
 Calls Tryz.prog 64 #[.agg #[.string a0_0, .string a0_1, .slice A0_2 l0_2.length c0_2, .string a0_3, .slice A0_4 l0_4.length c0_4], .slice A1 l1.length c1] w fun e w' => e = .returned (.bool r) ∧ Below w.heap.size w w' := by
 have hu55 := Tryz.underlying55
 have HR0_2 := Aside0.mk hr0_2
 have HC0_2 := Aside0.mk hc0_2
 clear hr0_2 hc0_2
 have HR0_4 := Aside0.mk hr0_4
 have HC0_4 := Aside0.mk hc0_4
 clear hr0_4 hc0_4
 have HR1 := Aside0.mk hr1
 have HC1 := Aside0.mk hc1
 clear hr1 hc1
 have HB := Aside0.mk (Below.refl w.heap.size w)
 have H : ((spec_AddressOk.f k a0_0).bind fun t268 => (if t268 = true then ((spec_TreeOk.f k l0_4).bind fun t269 => (if t269 = true then ((spec_TreeSum.f k l0_4).bind fun t270 => (if a0_1.toList = t270.toList then (if a0_3.toList = ([] : List UInt8) then ((spec_l10Refs.f k l0_4 l1).bind fun t271 => ((spec_l12SameTexts.f k l0_2 t271).bind fun t274 => (some t274))) else ((spec_AddressOk.f k a0_3).bind fun t275 => (if t275 = true then ((spec_l10Refs.f k l0_4 l1).bind fun t276 => ((spec_l12SameTexts.f k l0_2 t276).bind fun t279 => (some t279))) else (some false)))) else (some false))) else (some false))) else (some false))) = some r := h
 clear h
 replace H := Option.bind_eq_some_iff.mp H
 obtain ⟨t268, A30, H⟩ := H
 have A3 := Aside0.mk A30
 clear A30
 by_cases c4 : t268 = true
 {
 subst c4
 rw [if_pos rfl] at H
 replace H := Option.bind_eq_some_iff.mp H
 obtain ⟨t269, A50, H⟩ := H
 have A5 := Aside0.mk A50
 clear A50
 by_cases c6 : t269 = true
 {
 subst c6
 rw [if_pos rfl] at H
 replace H := Option.bind_eq_some_iff.mp H
 obtain ⟨t270, A70, H⟩ := H
 have A7 := Aside0.mk A70
 clear A70
 by_cases c8 : a0_1.toList = t270.toList
 {
 rw [if_pos c8] at H
 have c8b0 : (a0_1.toList == t270.toList) = true := beq_iff_eq.mpr c8
 have c8b1 : (a0_1.toList != t270.toList) = false := bne_eq_false_iff_eq.mpr c8
 clear c8
 by_cases c9 : a0_3.toList = ([] : List UInt8)
 {
 rw [if_pos c9] at H
 have c9b0 : (a0_3.toList == ([] : List UInt8)) = true := beq_iff_eq.mpr c9
 have c9b1 : (a0_3.toList != ([] : List UInt8)) = false := bne_eq_false_iff_eq.mpr c9
 clear c9
 replace H := Option.bind_eq_some_iff.mp H
 obtain ⟨t271, A100, H⟩ := H
 have A10 := Aside0.mk A100
 clear A100
 replace H := Option.bind_eq_some_iff.mp H
 obtain ⟨t274, A110, H⟩ := H
 have A11 := Aside0.mk A110
 clear A110
 obtain rfl := Option.some.inj H
 go_enter Tryz.func64, Tryz.ntmps64
 try go_wp2_with (first | ((with_reducible refine gate_dst (N := 2) rfl ?_); refine bE_ 2 #[.string a0_0, .string a0_1, .slice A0_2 l0_2.length c0_2, .string a0_3, .slice A0_4 l0_4.length c0_4] 55 ?_; intro gb267 hg w12 hbox hb; have BK267 := Aside0.mk (hbox); have GW267 := Aside0.mk (ge_ hg (bw_ HB)); have GE267 := Aside0.mk (ge_ hg (bw_ HB)); replace HB := Aside0.mk (below_step (bw_ HB) hb); clear hb hbox hg))
 replace BK267 := Aside0.mk (blk_drew BK267.out)
 replace HB := Aside0.mk (below_drew1 HB.out)
 refine start_ (n := 36) (S := fun w' => w'.cell? ⟨gb267, 0, none⟩ = some (.string a0_0) ∧ w'.cell? ⟨gb267, 1, none⟩ = some (.string a0_1) ∧ w'.cell? ⟨gb267, 2, none⟩ = some (.slice A0_2 l0_2.length c0_2) ∧ w'.cell? ⟨gb267, 3, none⟩ = some (.string a0_3) ∧ w'.cell? ⟨gb267, 4, none⟩ = some (.slice A0_4 l0_4.length c0_4)) (ds := []) (bs_ 36 0) (by kernel_rfl) rfl (by kernel_rfl) ⟨(blk_cell BK267.out 0).trans rfl, (blk_cell BK267.out 1).trans rfl, (blk_cell BK267.out 2).trans rfl, (blk_cell BK267.out 3).trans rfl, (blk_cell BK267.out 4).trans rfl⟩ (fun hHeld => ?_); refine with_tabW spec_l12ItemOk.tab1 spec_l12ItemOk.bits1 (fun HT_ HW_ => ?_)
 generalize w12.drew = w13 at BK267 HB hHeld ⊢
 refine pS_ 0 ?_
 refine t5_ 1 hHeld ?_
 refine oS_ 2 (fun K hK => ?_)
 refine gS_ Tryz.func43 #[.string a0_0] ?_
 with_reducible refine (spec_AddressOk.calls k a0_0 true _ A3.out).mono ?_
 rintro e w' ⟨rfl, ⟨nd, rfl⟩⟩
 refine ⟨_, rfl, ?_⟩
 refine hK.out _ _ ⟨(blk_cell BK267.out 0).trans rfl, (blk_cell BK267.out 1).trans rfl, (blk_cell BK267.out 2).trans rfl, (blk_cell BK267.out 3).trans rfl, (blk_cell BK267.out 4).trans rfl⟩ (fun hHeld => ?_)
 clear hK K
 refine nS_ 7 ?_
 refine pS_ 3 ?_
 refine pS_ 4 ?_
 refine t5_ 5 hHeld ?_
 refine oS_ 6 (fun K hK => ?_)
 refine gS_ Tryz.func44 #[.slice A0_4 l0_4.length c0_4] ?_
 with_reducible refine (spec_TreeOk.calls k _ _ l0_4 true _ ?side1 ?side2 A5.out).mono ?_
 (case side1 => repeat (first | exact (Kd.C_below HR0_4.out (bw1_ HB GE267)) | (with_reducible refine Kd.C_alloc ?_ _) | (with_reducible refine Kd.C_drewN ?_ _) | (with_reducible refine Kd.C_drew ?_)))
 (case side2 => exact HC0_4.out)
 rintro e w14 ⟨rfl, hb⟩
 refine ⟨_, rfl, ?_⟩
 replace BK267 := Aside0.mk (blk_below (bk_ BK267) hb)
 replace HB := Aside0.mk (below_step (bw1_ HB GE267) hb)
 (try clear hb)
 (try clear hb2)
 (try clear hk)
 (try clear hi)
 refine hK.out _ _ ⟨(blk_cell BK267.out 0).trans rfl, (blk_cell BK267.out 1).trans rfl, (blk_cell BK267.out 2).trans rfl, (blk_cell BK267.out 3).trans rfl, (blk_cell BK267.out 4).trans rfl⟩ (fun hHeld => ?_)
 clear hK K
 refine nS_ 11 ?_
 refine pS_ 7 ?_
 refine pS_ 8 ?_
 refine pS_ 9 ?_
 refine pS_ 11 ?_
 refine t5_ 10 hHeld ?_
 refine t5_ 12 hHeld ?_
 refine oS_ 13 (fun K hK => ?_)
 refine gS_ Tryz.func73 #[.slice A0_4 l0_4.length c0_4] ?_
 with_reducible refine (spec_TreeSum.calls k _ _ l0_4 t270 _ ?side1 ?side2 A7.out).mono ?_
 (case side1 => exact cS_ HR0_4 HB)
 (case side2 => exact HC0_4.out)
 rintro e w15 ⟨rfl, hb⟩
 refine ⟨_, rfl, ?_⟩
 replace BK267 := Aside0.mk (blk_below (bk_ BK267) hb)
 replace HB := Aside0.mk (below_step (bw1_ HB GE267) hb)
 (try clear hb)
 (try clear hb2)
 (try clear hk)
 (try clear hi)
 refine hK.out _ _ ⟨(blk_cell BK267.out 0).trans rfl, (blk_cell BK267.out 1).trans rfl, (blk_cell BK267.out 2).trans rfl, (blk_cell BK267.out 3).trans rfl, (blk_cell BK267.out 4).trans rfl⟩ (fun hHeld => ?_)
 clear hK K
 refine nS_ 18 ?_
 refine pS_ 14 ?_
 refine pS_ 15 ?_
 refine pS_ 16 ?_
 refine pS_ 17 ?_
 refine t5_ 18 hHeld ?_
 refine pS_ 19 ?_
 refine pS_ 20 ?_
 refine pU_ 21 ?_
 refine pU_ 22 ?_
 refine pU_ 23 ?_
 refine pS_ 24 ?_
 refine pS_ 25 ?_
 refine pS_ 26 ?_
 refine pS_ 27 ?_
 refine pS_ 29 ?_
 refine pS_ 31 ?_
 refine t5_ 28 hHeld ?_
 refine t5_ 30 hHeld ?_
 refine oS_ 32 (fun K hK => ?_)
 refine gS_ Tryz.func74 #[.slice A0_4 l0_4.length c0_4, .slice A1 l1.length c1] ?_
 with_reducible refine (spec_l10Refs.calls k _ _ l0_4 _ _ l1 t271 _ ?side1 ?side2 ?side3 ?side4 A10.out).mono ?_
 (case side1 => exact cS_ HR0_4 HB)
 (case side2 => exact HC0_4.out)
 (case side3 => exact cS_ HR1 HB)
 (case side4 => exact HC1.out)
 rintro e w16 ⟨v272, rfl, ho0, hb⟩
 refine ⟨_, rfl, ?_⟩
 have HO273 := Aside0.mk (Kd.R_lower ho0 (below_size (bw1_ HB GE267)))
 replace BK267 := Aside0.mk (blk_below (bk_ BK267) hb)
 replace HB := Aside0.mk (below_step (bw1_ HB GE267) hb)
 (try clear hb)
 (try clear hb2)
 (try clear hk)
 (try clear hi)
 (try clear ho0)
 obtain ⟨Ao17, co17, eo17⟩ := Kd.R_slice HO273.out
 (first | subst eo17 | (injection eo17 with f1_ f2_ f3_; have f4_ := f1_.symm; have f5_ := f3_.symm; clear f1_ f2_ f3_; subst f4_; subst f5_))
 refine hK.out _ _ ⟨(blk_cell BK267.out 0).trans rfl, (blk_cell BK267.out 1).trans rfl, (blk_cell BK267.out 2).trans rfl, (blk_cell BK267.out 3).trans rfl, (blk_cell BK267.out 4).trans rfl⟩ (fun hHeld => ?_)
 clear hK K
 refine nS_ 37 ?_
 refine oS_ 33 (fun K hK => ?_)
 refine gS_ Tryz.func84 #[.slice A0_2 l0_2.length c0_2, .slice Ao17 t271.length co17] ?_
 with_reducible refine (spec_l12SameTexts.calls k _ _ l0_2 _ _ t271 t274 _ ?side1 ?side2 ?side3 ?side4 A11.out).mono ?_
 (case side1 => exact cS_ HR0_2 HB)
 (case side2 => exact HC0_2.out)
 (case side3 => repeat (first | exact (Kd.R_reads' HO273.out).2.2 | (with_reducible refine Kd.C_alloc ?_ _) | (with_reducible refine Kd.C_drewN ?_ _) | (with_reducible refine Kd.C_drew ?_)))
 (case side4 => exact (Kd.R_reads' HO273.out).2.1)
 rintro e w' ⟨rfl, ⟨nd, rfl⟩⟩
 refine ⟨_, rfl, ?_⟩
 refine hK.out _ _ ⟨(blk_cell BK267.out 0).trans rfl, (blk_cell BK267.out 1).trans rfl, (blk_cell BK267.out 2).trans rfl, (blk_cell BK267.out 3).trans rfl, (blk_cell BK267.out 4).trans rfl⟩ (fun hHeld => ?_)
 clear hK K
 refine nS_ 38 ?_
 refine pS_ 34 ?_
 refine pS_ 35 ?_
 refine done_ (done_of HT_.out (by kernel_rfl)) ?_
 try go_wp2
 go_ret
 exact ⟨eR_, bw1_ HB GE267⟩}
 {
 rw [if_neg c9] at H
 have c9b0 : (a0_3.toList == ([] : List UInt8)) = false := beq_eq_false_iff_ne.mpr c9
 have c9b1 : (a0_3.toList != ([] : List UInt8)) = true := bne_iff_ne.mpr c9
 replace H := Option.bind_eq_some_iff.mp H
 obtain ⟨t275, A180, H⟩ := H
 have A18 := Aside0.mk A180
 clear A180
 by_cases c19 : t275 = true
 {
 subst c19
 rw [if_pos rfl] at H
 replace H := Option.bind_eq_some_iff.mp H
 obtain ⟨t276, A200, H⟩ := H
 have A20 := Aside0.mk A200
 clear A200
 replace H := Option.bind_eq_some_iff.mp H
 obtain ⟨t279, A210, H⟩ := H
 have A21 := Aside0.mk A210
 clear A210
 obtain rfl := Option.some.inj H
 go_enter Tryz.func64, Tryz.ntmps64
 try go_wp2_with (first | ((with_reducible refine gate_dst (N := 2) rfl ?_); refine bE_ 2 #[.string a0_0, .string a0_1, .slice A0_2 l0_2.length c0_2, .string a0_3, .slice A0_4 l0_4.length c0_4] 55 ?_; intro gb267 hg w22 hbox hb; have BK267 := Aside0.mk (hbox); have GW267 := Aside0.mk (ge_ hg (bw_ HB)); have GE267 := Aside0.mk (ge_ hg (bw_ HB)); replace HB := Aside0.mk (below_step (bw_ HB) hb); clear hb hbox hg))
 replace BK267 := Aside0.mk (blk_drew BK267.out)
 replace HB := Aside0.mk (below_drew1 HB.out)
 refine start_ (n := 36) (S := fun w' => w'.cell? ⟨gb267, 0, none⟩ = some (.string a0_0) ∧ w'.cell? ⟨gb267, 1, none⟩ = some (.string a0_1) ∧ w'.cell? ⟨gb267, 2, none⟩ = some (.slice A0_2 l0_2.length c0_2) ∧ w'.cell? ⟨gb267, 3, none⟩ = some (.string a0_3) ∧ w'.cell? ⟨gb267, 4, none⟩ = some (.slice A0_4 l0_4.length c0_4)) (ds := []) (bs_ 36 0) (by kernel_rfl) rfl (by kernel_rfl) ⟨(blk_cell BK267.out 0).trans rfl, (blk_cell BK267.out 1).trans rfl, (blk_cell BK267.out 2).trans rfl, (blk_cell BK267.out 3).trans rfl, (blk_cell BK267.out 4).trans rfl⟩ (fun hHeld => ?_); refine with_tabW spec_l12ItemOk.tab1 spec_l12ItemOk.bits1 (fun HT_ HW_ => ?_)
 generalize w22.drew = w23 at BK267 HB hHeld ⊢
 refine pS_ 0 ?_
 refine t5_ 1 hHeld ?_
 refine oS_ 2 (fun K hK => ?_)
 refine gS_ Tryz.func43 #[.string a0_0] ?_
 with_reducible refine (spec_AddressOk.calls k a0_0 true _ A3.out).mono ?_
 rintro e w' ⟨rfl, ⟨nd, rfl⟩⟩
 refine ⟨_, rfl, ?_⟩
 refine hK.out _ _ ⟨(blk_cell BK267.out 0).trans rfl, (blk_cell BK267.out 1).trans rfl, (blk_cell BK267.out 2).trans rfl, (blk_cell BK267.out 3).trans rfl, (blk_cell BK267.out 4).trans rfl⟩ (fun hHeld => ?_)
 clear hK K
 refine nS_ 7 ?_
 refine pS_ 3 ?_
 refine pS_ 4 ?_
 refine t5_ 5 hHeld ?_
 refine oS_ 6 (fun K hK => ?_)
 refine gS_ Tryz.func44 #[.slice A0_4 l0_4.length c0_4] ?_
 with_reducible refine (spec_TreeOk.calls k _ _ l0_4 true _ ?side1 ?side2 A5.out).mono ?_
 (case side1 => repeat (first | exact (Kd.C_below HR0_4.out (bw1_ HB GE267)) | (with_reducible refine Kd.C_alloc ?_ _) | (with_reducible refine Kd.C_drewN ?_ _) | (with_reducible refine Kd.C_drew ?_)))
 (case side2 => exact HC0_4.out)
 rintro e w24 ⟨rfl, hb⟩
 refine ⟨_, rfl, ?_⟩
 replace BK267 := Aside0.mk (blk_below (bk_ BK267) hb)
 replace HB := Aside0.mk (below_step (bw1_ HB GE267) hb)
 (try clear hb)
 (try clear hb2)
 (try clear hk)
 (try clear hi)
 refine hK.out _ _ ⟨(blk_cell BK267.out 0).trans rfl, (blk_cell BK267.out 1).trans rfl, (blk_cell BK267.out 2).trans rfl, (blk_cell BK267.out 3).trans rfl, (blk_cell BK267.out 4).trans rfl⟩ (fun hHeld => ?_)
 clear hK K
 refine nS_ 11 ?_
 refine pS_ 7 ?_
 refine pS_ 8 ?_
 refine pS_ 9 ?_
 refine pS_ 11 ?_
 refine t5_ 10 hHeld ?_
 refine t5_ 12 hHeld ?_
 refine oS_ 13 (fun K hK => ?_)
 refine gS_ Tryz.func73 #[.slice A0_4 l0_4.length c0_4] ?_
 with_reducible refine (spec_TreeSum.calls k _ _ l0_4 t270 _ ?side1 ?side2 A7.out).mono ?_
 (case side1 => exact cS_ HR0_4 HB)
 (case side2 => exact HC0_4.out)
 rintro e w25 ⟨rfl, hb⟩
 refine ⟨_, rfl, ?_⟩
 replace BK267 := Aside0.mk (blk_below (bk_ BK267) hb)
 replace HB := Aside0.mk (below_step (bw1_ HB GE267) hb)
 (try clear hb)
 (try clear hb2)
 (try clear hk)
 (try clear hi)
 refine hK.out _ _ ⟨(blk_cell BK267.out 0).trans rfl, (blk_cell BK267.out 1).trans rfl, (blk_cell BK267.out 2).trans rfl, (blk_cell BK267.out 3).trans rfl, (blk_cell BK267.out 4).trans rfl⟩ (fun hHeld => ?_)
 clear hK K
 refine nS_ 18 ?_
 refine pS_ 14 ?_
 refine pS_ 15 ?_
 refine pS_ 16 ?_
 refine pS_ 17 ?_
 refine t5_ 18 hHeld ?_
 refine pS_ 19 ?_
 refine pS_ 20 ?_
 refine pS_ 21 ?_
 refine t5_ 22 hHeld ?_
 refine oS_ 23 (fun K hK => ?_)
 refine gS_ Tryz.func43 #[.string a0_3] ?_
 with_reducible refine (spec_AddressOk.calls k a0_3 true _ A18.out).mono ?_
 rintro e w' ⟨rfl, ⟨nd, rfl⟩⟩
 refine ⟨_, rfl, ?_⟩
 refine hK.out _ _ ⟨(blk_cell BK267.out 0).trans rfl, (blk_cell BK267.out 1).trans rfl, (blk_cell BK267.out 2).trans rfl, (blk_cell BK267.out 3).trans rfl, (blk_cell BK267.out 4).trans rfl⟩ (fun hHeld => ?_)
 clear hK K
 refine nS_ 28 ?_
 refine pS_ 24 ?_
 refine pS_ 25 ?_
 refine pS_ 26 ?_
 refine pS_ 27 ?_
 refine pS_ 29 ?_
 refine pS_ 31 ?_
 refine t5_ 28 hHeld ?_
 refine t5_ 30 hHeld ?_
 refine oS_ 32 (fun K hK => ?_)
 refine gS_ Tryz.func74 #[.slice A0_4 l0_4.length c0_4, .slice A1 l1.length c1] ?_
 with_reducible refine (spec_l10Refs.calls k _ _ l0_4 _ _ l1 t276 _ ?side1 ?side2 ?side3 ?side4 A20.out).mono ?_
 (case side1 => repeat (first | exact (Kd.C_below HR0_4.out (bw1_ HB GE267)) | (with_reducible refine Kd.C_alloc ?_ _) | (with_reducible refine Kd.C_drewN ?_ _) | (with_reducible refine Kd.C_drew ?_)))
 (case side2 => exact HC0_4.out)
 (case side3 => repeat (first | exact (Kd.C_below HR1.out (bw1_ HB GE267)) | (with_reducible refine Kd.C_alloc ?_ _) | (with_reducible refine Kd.C_drewN ?_ _) | (with_reducible refine Kd.C_drew ?_)))
 (case side4 => exact HC1.out)
 rintro e w26 ⟨v277, rfl, ho0, hb⟩
 refine ⟨_, rfl, ?_⟩
 have HO278 := Aside0.mk (Kd.R_lower ho0 (below_size (bw1_ HB GE267)))
 replace BK267 := Aside0.mk (blk_below (bk_ BK267) hb)
 replace HB := Aside0.mk (below_step (bw1_ HB GE267) hb)
 (try clear hb)
 (try clear hb2)
 (try clear hk)
 (try clear hi)
 (try clear ho0)
 obtain ⟨Ao27, co27, eo27⟩ := Kd.R_slice HO278.out
 (first | subst eo27 | (injection eo27 with f1_ f2_ f3_; have f4_ := f1_.symm; have f5_ := f3_.symm; clear f1_ f2_ f3_; subst f4_; subst f5_))
 refine hK.out _ _ ⟨(blk_cell BK267.out 0).trans rfl, (blk_cell BK267.out 1).trans rfl, (blk_cell BK267.out 2).trans rfl, (blk_cell BK267.out 3).trans rfl, (blk_cell BK267.out 4).trans rfl⟩ (fun hHeld => ?_)
 clear hK K
 refine nS_ 37 ?_
 refine oS_ 33 (fun K hK => ?_)
 refine gS_ Tryz.func84 #[.slice A0_2 l0_2.length c0_2, .slice Ao27 t276.length co27] ?_
 with_reducible refine (spec_l12SameTexts.calls k _ _ l0_2 _ _ t276 t279 _ ?side1 ?side2 ?side3 ?side4 A21.out).mono ?_
 (case side1 => exact cS_ HR0_2 HB)
 (case side2 => exact HC0_2.out)
 (case side3 => repeat (first | exact (Kd.R_reads' HO278.out).2.2 | (with_reducible refine Kd.C_alloc ?_ _) | (with_reducible refine Kd.C_drewN ?_ _) | (with_reducible refine Kd.C_drew ?_)))
 (case side4 => exact (Kd.R_reads' HO278.out).2.1)
 rintro e w' ⟨rfl, ⟨nd, rfl⟩⟩
 refine ⟨_, rfl, ?_⟩
 refine hK.out _ _ ⟨(blk_cell BK267.out 0).trans rfl, (blk_cell BK267.out 1).trans rfl, (blk_cell BK267.out 2).trans rfl, (blk_cell BK267.out 3).trans rfl, (blk_cell BK267.out 4).trans rfl⟩ (fun hHeld => ?_)
 clear hK K
 refine nS_ 38 ?_
 refine pS_ 34 ?_
 refine pS_ 35 ?_
 refine done_ (done_of HT_.out (by kernel_rfl)) ?_
 try go_wp2
 go_ret
 exact ⟨eR_, bw1_ HB GE267⟩}
 {
 replace c19 := Bool.eq_false_iff.mpr c19
 subst c19
 rw [if_neg (show ¬ (false = true) by decide)] at H
 obtain rfl := Option.some.inj H
 go_enter Tryz.func64, Tryz.ntmps64
 try go_wp2_with (first | ((with_reducible refine gate_dst (N := 2) rfl ?_); refine bE_ 2 #[.string a0_0, .string a0_1, .slice A0_2 l0_2.length c0_2, .string a0_3, .slice A0_4 l0_4.length c0_4] 55 ?_; intro gb267 hg w28 hbox hb; have BK267 := Aside0.mk (hbox); have GW267 := Aside0.mk (ge_ hg (bw_ HB)); have GE267 := Aside0.mk (ge_ hg (bw_ HB)); replace HB := Aside0.mk (below_step (bw_ HB) hb); clear hb hbox hg))
 replace BK267 := Aside0.mk (blk_drew BK267.out)
 replace HB := Aside0.mk (below_drew1 HB.out)
 refine start_ (n := 36) (S := fun w' => w'.cell? ⟨gb267, 0, none⟩ = some (.string a0_0) ∧ w'.cell? ⟨gb267, 1, none⟩ = some (.string a0_1) ∧ w'.cell? ⟨gb267, 2, none⟩ = some (.slice A0_2 l0_2.length c0_2) ∧ w'.cell? ⟨gb267, 3, none⟩ = some (.string a0_3) ∧ w'.cell? ⟨gb267, 4, none⟩ = some (.slice A0_4 l0_4.length c0_4)) (ds := []) (bs_ 36 0) (by kernel_rfl) rfl (by kernel_rfl) ⟨(blk_cell BK267.out 0).trans rfl, (blk_cell BK267.out 1).trans rfl, (blk_cell BK267.out 2).trans rfl, (blk_cell BK267.out 3).trans rfl, (blk_cell BK267.out 4).trans rfl⟩ (fun hHeld => ?_); refine with_tabW spec_l12ItemOk.tab1 spec_l12ItemOk.bits1 (fun HT_ HW_ => ?_)
 generalize w28.drew = w29 at BK267 HB hHeld ⊢
 refine pS_ 0 ?_
 refine t5_ 1 hHeld ?_
 refine oS_ 2 (fun K hK => ?_)
 refine gS_ Tryz.func43 #[.string a0_0] ?_
 with_reducible refine (spec_AddressOk.calls k a0_0 true _ A3.out).mono ?_
 rintro e w' ⟨rfl, ⟨nd, rfl⟩⟩
 refine ⟨_, rfl, ?_⟩
 refine hK.out _ _ ⟨(blk_cell BK267.out 0).trans rfl, (blk_cell BK267.out 1).trans rfl, (blk_cell BK267.out 2).trans rfl, (blk_cell BK267.out 3).trans rfl, (blk_cell BK267.out 4).trans rfl⟩ (fun hHeld => ?_)
 clear hK K
 refine nS_ 7 ?_
 refine pS_ 3 ?_
 refine pS_ 4 ?_
 refine t5_ 5 hHeld ?_
 refine oS_ 6 (fun K hK => ?_)
 refine gS_ Tryz.func44 #[.slice A0_4 l0_4.length c0_4] ?_
 with_reducible refine (spec_TreeOk.calls k _ _ l0_4 true _ ?side1 ?side2 A5.out).mono ?_
 (case side1 => repeat (first | exact (Kd.C_below HR0_4.out (bw1_ HB GE267)) | (with_reducible refine Kd.C_alloc ?_ _) | (with_reducible refine Kd.C_drewN ?_ _) | (with_reducible refine Kd.C_drew ?_)))
 (case side2 => exact HC0_4.out)
 rintro e w30 ⟨rfl, hb⟩
 refine ⟨_, rfl, ?_⟩
 replace BK267 := Aside0.mk (blk_below (bk_ BK267) hb)
 replace HB := Aside0.mk (below_step (bw1_ HB GE267) hb)
 (try clear hb)
 (try clear hb2)
 (try clear hk)
 (try clear hi)
 refine hK.out _ _ ⟨(blk_cell BK267.out 0).trans rfl, (blk_cell BK267.out 1).trans rfl, (blk_cell BK267.out 2).trans rfl, (blk_cell BK267.out 3).trans rfl, (blk_cell BK267.out 4).trans rfl⟩ (fun hHeld => ?_)
 clear hK K
 refine nS_ 11 ?_
 refine pS_ 7 ?_
 refine pS_ 8 ?_
 refine pS_ 9 ?_
 refine pS_ 11 ?_
 refine t5_ 10 hHeld ?_
 refine t5_ 12 hHeld ?_
 refine oS_ 13 (fun K hK => ?_)
 refine gS_ Tryz.func73 #[.slice A0_4 l0_4.length c0_4] ?_
 with_reducible refine (spec_TreeSum.calls k _ _ l0_4 t270 _ ?side1 ?side2 A7.out).mono ?_
 (case side1 => exact cS_ HR0_4 HB)
 (case side2 => exact HC0_4.out)
 rintro e w31 ⟨rfl, hb⟩
 refine ⟨_, rfl, ?_⟩
 replace BK267 := Aside0.mk (blk_below (bk_ BK267) hb)
 replace HB := Aside0.mk (below_step (bw1_ HB GE267) hb)
 (try clear hb)
 (try clear hb2)
 (try clear hk)
 (try clear hi)
 refine hK.out _ _ ⟨(blk_cell BK267.out 0).trans rfl, (blk_cell BK267.out 1).trans rfl, (blk_cell BK267.out 2).trans rfl, (blk_cell BK267.out 3).trans rfl, (blk_cell BK267.out 4).trans rfl⟩ (fun hHeld => ?_)
 clear hK K
 refine nS_ 18 ?_
 refine pS_ 14 ?_
 refine pS_ 15 ?_
 refine pS_ 16 ?_
 refine pS_ 17 ?_
 refine t5_ 18 hHeld ?_
 refine pS_ 19 ?_
 refine pS_ 20 ?_
 refine pS_ 21 ?_
 refine t5_ 22 hHeld ?_
 refine oS_ 23 (fun K hK => ?_)
 refine gS_ Tryz.func43 #[.string a0_3] ?_
 with_reducible refine (spec_AddressOk.calls k a0_3 false _ A18.out).mono ?_
 rintro e w' ⟨rfl, ⟨nd, rfl⟩⟩
 refine ⟨_, rfl, ?_⟩
 refine hK.out _ _ ⟨(blk_cell BK267.out 0).trans rfl, (blk_cell BK267.out 1).trans rfl, (blk_cell BK267.out 2).trans rfl, (blk_cell BK267.out 3).trans rfl, (blk_cell BK267.out 4).trans rfl⟩ (fun hHeld => ?_)
 clear hK K
 refine nS_ 28 ?_
 refine pS_ 24 ?_
 refine pS_ 25 ?_
 refine pS_ 26 ?_
 refine pU_ 27 ?_
 refine pU_ 28 ?_
 refine pU_ 29 ?_
 refine pU_ 30 ?_
 refine pU_ 31 ?_
 refine pU_ 32 ?_
 refine pU_ 33 ?_
 refine pS_ 34 ?_
 refine pS_ 35 ?_
 refine done_ (done_of HT_.out (by kernel_rfl)) ?_
 try go_wp2
 go_ret
 exact ⟨eR_, bw1_ HB GE267⟩}}}
 {
 rw [if_neg c8] at H
 have c8b0 : (a0_1.toList == t270.toList) = false := beq_eq_false_iff_ne.mpr c8
 have c8b1 : (a0_1.toList != t270.toList) = true := bne_iff_ne.mpr c8
 obtain rfl := Option.some.inj H
 go_enter Tryz.func64, Tryz.ntmps64
 try go_wp2_with (first | ((with_reducible refine gate_dst (N := 2) rfl ?_); refine bE_ 2 #[.string a0_0, .string a0_1, .slice A0_2 l0_2.length c0_2, .string a0_3, .slice A0_4 l0_4.length c0_4] 55 ?_; intro gb267 hg w32 hbox hb; have BK267 := Aside0.mk (hbox); have GW267 := Aside0.mk (ge_ hg (bw_ HB)); have GE267 := Aside0.mk (ge_ hg (bw_ HB)); replace HB := Aside0.mk (below_step (bw_ HB) hb); clear hb hbox hg))
 replace BK267 := Aside0.mk (blk_drew BK267.out)
 replace HB := Aside0.mk (below_drew1 HB.out)
 refine start_ (n := 36) (S := fun w' => w'.cell? ⟨gb267, 0, none⟩ = some (.string a0_0) ∧ w'.cell? ⟨gb267, 1, none⟩ = some (.string a0_1) ∧ w'.cell? ⟨gb267, 2, none⟩ = some (.slice A0_2 l0_2.length c0_2) ∧ w'.cell? ⟨gb267, 3, none⟩ = some (.string a0_3) ∧ w'.cell? ⟨gb267, 4, none⟩ = some (.slice A0_4 l0_4.length c0_4)) (ds := []) (bs_ 36 0) (by kernel_rfl) rfl (by kernel_rfl) ⟨(blk_cell BK267.out 0).trans rfl, (blk_cell BK267.out 1).trans rfl, (blk_cell BK267.out 2).trans rfl, (blk_cell BK267.out 3).trans rfl, (blk_cell BK267.out 4).trans rfl⟩ (fun hHeld => ?_); refine with_tabW spec_l12ItemOk.tab1 spec_l12ItemOk.bits1 (fun HT_ HW_ => ?_)
 generalize w32.drew = w33 at BK267 HB hHeld ⊢
 refine pS_ 0 ?_
 refine t5_ 1 hHeld ?_
 refine oS_ 2 (fun K hK => ?_)
 refine gS_ Tryz.func43 #[.string a0_0] ?_
 with_reducible refine (spec_AddressOk.calls k a0_0 true _ A3.out).mono ?_
 rintro e w' ⟨rfl, ⟨nd, rfl⟩⟩
 refine ⟨_, rfl, ?_⟩
 refine hK.out _ _ ⟨(blk_cell BK267.out 0).trans rfl, (blk_cell BK267.out 1).trans rfl, (blk_cell BK267.out 2).trans rfl, (blk_cell BK267.out 3).trans rfl, (blk_cell BK267.out 4).trans rfl⟩ (fun hHeld => ?_)
 clear hK K
 refine nS_ 7 ?_
 refine pS_ 3 ?_
 refine pS_ 4 ?_
 refine t5_ 5 hHeld ?_
 refine oS_ 6 (fun K hK => ?_)
 refine gS_ Tryz.func44 #[.slice A0_4 l0_4.length c0_4] ?_
 with_reducible refine (spec_TreeOk.calls k _ _ l0_4 true _ ?side1 ?side2 A5.out).mono ?_
 (case side1 => repeat (first | exact (Kd.C_below HR0_4.out (bw1_ HB GE267)) | (with_reducible refine Kd.C_alloc ?_ _) | (with_reducible refine Kd.C_drewN ?_ _) | (with_reducible refine Kd.C_drew ?_)))
 (case side2 => exact HC0_4.out)
 rintro e w34 ⟨rfl, hb⟩
 refine ⟨_, rfl, ?_⟩
 replace BK267 := Aside0.mk (blk_below (bk_ BK267) hb)
 replace HB := Aside0.mk (below_step (bw1_ HB GE267) hb)
 (try clear hb)
 (try clear hb2)
 (try clear hk)
 (try clear hi)
 refine hK.out _ _ ⟨(blk_cell BK267.out 0).trans rfl, (blk_cell BK267.out 1).trans rfl, (blk_cell BK267.out 2).trans rfl, (blk_cell BK267.out 3).trans rfl, (blk_cell BK267.out 4).trans rfl⟩ (fun hHeld => ?_)
 clear hK K
 refine nS_ 11 ?_
 refine pS_ 7 ?_
 refine pS_ 8 ?_
 refine pS_ 9 ?_
 refine pS_ 11 ?_
 refine t5_ 10 hHeld ?_
 refine t5_ 12 hHeld ?_
 refine oS_ 13 (fun K hK => ?_)
 refine gS_ Tryz.func73 #[.slice A0_4 l0_4.length c0_4] ?_
 with_reducible refine (spec_TreeSum.calls k _ _ l0_4 t270 _ ?side1 ?side2 A7.out).mono ?_
 (case side1 => exact cS_ HR0_4 HB)
 (case side2 => exact HC0_4.out)
 rintro e w35 ⟨rfl, hb⟩
 refine ⟨_, rfl, ?_⟩
 replace BK267 := Aside0.mk (blk_below (bk_ BK267) hb)
 replace HB := Aside0.mk (below_step (bw1_ HB GE267) hb)
 (try clear hb)
 (try clear hb2)
 (try clear hk)
 (try clear hi)
 refine hK.out _ _ ⟨(blk_cell BK267.out 0).trans rfl, (blk_cell BK267.out 1).trans rfl, (blk_cell BK267.out 2).trans rfl, (blk_cell BK267.out 3).trans rfl, (blk_cell BK267.out 4).trans rfl⟩ (fun hHeld => ?_)
 clear hK K
 refine nS_ 18 ?_
 refine pS_ 14 ?_
 refine pS_ 15 ?_
 refine pS_ 16 ?_
 refine pU_ 17 ?_
 refine pU_ 18 ?_
 refine pU_ 19 ?_
 refine pU_ 20 ?_
 refine pU_ 21 ?_
 refine pU_ 22 ?_
 refine pU_ 23 ?_
 refine pU_ 24 ?_
 refine pS_ 25 ?_
 refine pS_ 26 ?_
 refine pU_ 27 ?_
 refine pU_ 28 ?_
 refine pU_ 29 ?_
 refine pU_ 30 ?_
 refine pU_ 31 ?_
 refine pU_ 32 ?_
 refine pU_ 33 ?_
 refine pS_ 34 ?_
 refine pS_ 35 ?_
 refine done_ (done_of HT_.out (by kernel_rfl)) ?_
 try go_wp2
 go_ret
 exact ⟨eR_, bw1_ HB GE267⟩}}
 {
 replace c6 := Bool.eq_false_iff.mpr c6
 subst c6
 rw [if_neg (show ¬ (false = true) by decide)] at H
 obtain rfl := Option.some.inj H
 go_enter Tryz.func64, Tryz.ntmps64
 try go_wp2_with (first | ((with_reducible refine gate_dst (N := 2) rfl ?_); refine bE_ 2 #[.string a0_0, .string a0_1, .slice A0_2 l0_2.length c0_2, .string a0_3, .slice A0_4 l0_4.length c0_4] 55 ?_; intro gb267 hg w36 hbox hb; have BK267 := Aside0.mk (hbox); have GW267 := Aside0.mk (ge_ hg (bw_ HB)); have GE267 := Aside0.mk (ge_ hg (bw_ HB)); replace HB := Aside0.mk (below_step (bw_ HB) hb); clear hb hbox hg))
 replace BK267 := Aside0.mk (blk_drew BK267.out)
 replace HB := Aside0.mk (below_drew1 HB.out)
 refine start_ (n := 36) (S := fun w' => w'.cell? ⟨gb267, 0, none⟩ = some (.string a0_0) ∧ w'.cell? ⟨gb267, 1, none⟩ = some (.string a0_1) ∧ w'.cell? ⟨gb267, 2, none⟩ = some (.slice A0_2 l0_2.length c0_2) ∧ w'.cell? ⟨gb267, 3, none⟩ = some (.string a0_3) ∧ w'.cell? ⟨gb267, 4, none⟩ = some (.slice A0_4 l0_4.length c0_4)) (ds := []) (bs_ 36 0) (by kernel_rfl) rfl (by kernel_rfl) ⟨(blk_cell BK267.out 0).trans rfl, (blk_cell BK267.out 1).trans rfl, (blk_cell BK267.out 2).trans rfl, (blk_cell BK267.out 3).trans rfl, (blk_cell BK267.out 4).trans rfl⟩ (fun hHeld => ?_); refine with_tabW spec_l12ItemOk.tab1 spec_l12ItemOk.bits1 (fun HT_ HW_ => ?_)
 generalize w36.drew = w37 at BK267 HB hHeld ⊢
 refine pS_ 0 ?_
 refine t5_ 1 hHeld ?_
 refine oS_ 2 (fun K hK => ?_)
 refine gS_ Tryz.func43 #[.string a0_0] ?_
 with_reducible refine (spec_AddressOk.calls k a0_0 true _ A3.out).mono ?_
 rintro e w' ⟨rfl, ⟨nd, rfl⟩⟩
 refine ⟨_, rfl, ?_⟩
 refine hK.out _ _ ⟨(blk_cell BK267.out 0).trans rfl, (blk_cell BK267.out 1).trans rfl, (blk_cell BK267.out 2).trans rfl, (blk_cell BK267.out 3).trans rfl, (blk_cell BK267.out 4).trans rfl⟩ (fun hHeld => ?_)
 clear hK K
 refine nS_ 7 ?_
 refine pS_ 3 ?_
 refine pS_ 4 ?_
 refine t5_ 5 hHeld ?_
 refine oS_ 6 (fun K hK => ?_)
 refine gS_ Tryz.func44 #[.slice A0_4 l0_4.length c0_4] ?_
 with_reducible refine (spec_TreeOk.calls k _ _ l0_4 false _ ?side1 ?side2 A5.out).mono ?_
 (case side1 => repeat (first | exact (Kd.C_below HR0_4.out (bw1_ HB GE267)) | (with_reducible refine Kd.C_alloc ?_ _) | (with_reducible refine Kd.C_drewN ?_ _) | (with_reducible refine Kd.C_drew ?_)))
 (case side2 => exact HC0_4.out)
 rintro e w38 ⟨rfl, hb⟩
 refine ⟨_, rfl, ?_⟩
 replace BK267 := Aside0.mk (blk_below (bk_ BK267) hb)
 replace HB := Aside0.mk (below_step (bw1_ HB GE267) hb)
 (try clear hb)
 (try clear hb2)
 (try clear hk)
 (try clear hi)
 refine hK.out _ _ ⟨(blk_cell BK267.out 0).trans rfl, (blk_cell BK267.out 1).trans rfl, (blk_cell BK267.out 2).trans rfl, (blk_cell BK267.out 3).trans rfl, (blk_cell BK267.out 4).trans rfl⟩ (fun hHeld => ?_)
 clear hK K
 refine nS_ 11 ?_
 refine pS_ 7 ?_
 refine pS_ 8 ?_
 refine pU_ 9 ?_
 refine pU_ 10 ?_
 refine pU_ 11 ?_
 refine pU_ 12 ?_
 refine pU_ 13 ?_
 refine pU_ 14 ?_
 refine pS_ 15 ?_
 refine pS_ 16 ?_
 refine pU_ 17 ?_
 refine pU_ 18 ?_
 refine pU_ 19 ?_
 refine pU_ 20 ?_
 refine pU_ 21 ?_
 refine pU_ 22 ?_
 refine pU_ 23 ?_
 refine pU_ 24 ?_
 refine pS_ 25 ?_
 refine pS_ 26 ?_
 refine pU_ 27 ?_
 refine pU_ 28 ?_
 refine pU_ 29 ?_
 refine pU_ 30 ?_
 refine pU_ 31 ?_
 refine pU_ 32 ?_
 refine pU_ 33 ?_
 refine pS_ 34 ?_
 refine pS_ 35 ?_
 refine done_ (done_of HT_.out (by kernel_rfl)) ?_
 try go_wp2
 go_ret
 exact ⟨eR_, bw1_ HB GE267⟩}}
 {
 replace c4 := Bool.eq_false_iff.mpr c4
 subst c4
 rw [if_neg (show ¬ (false = true) by decide)] at H
 obtain rfl := Option.some.inj H
 go_enter Tryz.func64, Tryz.ntmps64
 try go_wp2_with (first | ((with_reducible refine gate_dst (N := 2) rfl ?_); refine bE_ 2 #[.string a0_0, .string a0_1, .slice A0_2 l0_2.length c0_2, .string a0_3, .slice A0_4 l0_4.length c0_4] 55 ?_; intro gb267 hg w39 hbox hb; have BK267 := Aside0.mk (hbox); have GW267 := Aside0.mk (ge_ hg (bw_ HB)); have GE267 := Aside0.mk (ge_ hg (bw_ HB)); replace HB := Aside0.mk (below_step (bw_ HB) hb); clear hb hbox hg))
 replace BK267 := Aside0.mk (blk_drew BK267.out)
 replace HB := Aside0.mk (below_drew1 HB.out)
 refine start_ (n := 36) (S := fun w' => w'.cell? ⟨gb267, 0, none⟩ = some (.string a0_0) ∧ w'.cell? ⟨gb267, 1, none⟩ = some (.string a0_1) ∧ w'.cell? ⟨gb267, 2, none⟩ = some (.slice A0_2 l0_2.length c0_2) ∧ w'.cell? ⟨gb267, 3, none⟩ = some (.string a0_3) ∧ w'.cell? ⟨gb267, 4, none⟩ = some (.slice A0_4 l0_4.length c0_4)) (ds := []) (bs_ 36 0) (by kernel_rfl) rfl (by kernel_rfl) ⟨(blk_cell BK267.out 0).trans rfl, (blk_cell BK267.out 1).trans rfl, (blk_cell BK267.out 2).trans rfl, (blk_cell BK267.out 3).trans rfl, (blk_cell BK267.out 4).trans rfl⟩ (fun hHeld => ?_); refine with_tabW spec_l12ItemOk.tab1 spec_l12ItemOk.bits1 (fun HT_ HW_ => ?_)
 generalize w39.drew = w40 at BK267 HB hHeld ⊢
 refine pS_ 0 ?_
 refine t5_ 1 hHeld ?_
 refine oS_ 2 (fun K hK => ?_)
 refine gS_ Tryz.func43 #[.string a0_0] ?_
 with_reducible refine (spec_AddressOk.calls k a0_0 false _ A3.out).mono ?_
 rintro e w' ⟨rfl, ⟨nd, rfl⟩⟩
 refine ⟨_, rfl, ?_⟩
 refine hK.out _ _ ⟨(blk_cell BK267.out 0).trans rfl, (blk_cell BK267.out 1).trans rfl, (blk_cell BK267.out 2).trans rfl, (blk_cell BK267.out 3).trans rfl, (blk_cell BK267.out 4).trans rfl⟩ (fun hHeld => ?_)
 clear hK K
 refine nS_ 7 ?_
 refine pS_ 3 ?_
 refine pU_ 4 ?_
 refine pU_ 5 ?_
 refine pU_ 6 ?_
 refine pS_ 7 ?_
 refine pS_ 8 ?_
 refine pU_ 9 ?_
 refine pU_ 10 ?_
 refine pU_ 11 ?_
 refine pU_ 12 ?_
 refine pU_ 13 ?_
 refine pU_ 14 ?_
 refine pS_ 15 ?_
 refine pS_ 16 ?_
 refine pU_ 17 ?_
 refine pU_ 18 ?_
 refine pU_ 19 ?_
 refine pU_ 20 ?_
 refine pU_ 21 ?_
 refine pU_ 22 ?_
 refine pU_ 23 ?_
 refine pU_ 24 ?_
 refine pS_ 25 ?_
 refine pS_ 26 ?_
 refine pU_ 27 ?_
 refine pU_ 28 ?_
 refine pU_ 29 ?_
 refine pU_ 30 ?_
 refine pU_ 31 ?_
 refine pU_ 32 ?_
 refine pU_ 33 ?_
 refine pS_ 34 ?_
 refine pS_ 35 ?_
 refine done_ (done_of HT_.out (by kernel_rfl)) ?_
 try go_wp2
 go_ret
 exact ⟨eR_, bw1_ HB GE267⟩
}
end Go.Proofs.YtikjbfjnbhaljaaGreatDoor.P
end

section
namespace Go.Proofs.YtikjbfjnbhaljaaGreatDoor.P
open Go.RowKit Go.Proofs.YtikjbfjnbhaljaaGreatDoorW.PrintWords Go.Proofs.YtikjbfjnbhaljaaGreatDoorW.PrintLast Go.Proofs.YtikjbfjnbhaljaaGreatDoorW.PrintMore Go.Proofs.YtikjbfjnbhaljaaGreatDoorM
attribute [local go_sem] max2_int min2_int max_two min_two max_three min_three max_four min_four
set_option linter.unusedVariables false
set_option linter.unusedSimpArgs false
def impl_StoreOk.l0 : Nat → List ByteArray → List (S55) → Int → Int → Option (Bool)
 | 0, _, _, _, _ => none
 | k + 1, x3, x14, x15, x16 => if x16 < x15 then (if 0 ≤ x16 then (if x16 < (x14.length : Int) then ((impl_itemOk.f k ((rd_T55 x14 x16).f0) ((rd_T55 x14 x16).f1) ((rd_T55 x14 x16).f2) ((rd_T55 x14 x16).f3) ((rd_T55 x14 x16).f4) x3).bind fun t463 => (if t463 = true then (impl_StoreOk.l0 k x3 x14 x15 (wrap64 (x16 + 1))) else (some false))) else (none)) else (none)) else (some true)
def impl_StoreOk.f (k : Nat) (l0 : List (S55)) : Option (Bool) := if (l0.length : Int) > 300 then (some false) else ((impl_storePaths.f k l0).bind fun t457 => ((impl_rising_hs.f k t457).bind fun t460 => (if t460 = true then (impl_StoreOk.l0 k t457 l0 (l0.length : Int) 0) else (some false))))
theorem impl_StoreOk.mono_l : ∀ k, (∀ y0 y1 y2 y3, LeO (impl_StoreOk.l0 k y0 y1 y2 y3) (impl_StoreOk.l0 (k + 1) y0 y1 y2 y3))
 | 0 => fun _ _ _ _ r h => by simp [impl_StoreOk.l0] at h
 | k + 1 => by
  have ih0 := impl_StoreOk.mono_l k
  {
  intro y0 y1 y2 y3
  unfold impl_StoreOk.l0
  repeat' first
  | (with_reducible exact ih0 _ _ _ _)
  | (with_reducible exact impl_itemOk.mono _ _ _ _ _ _ _)
  | (with_reducible exact impl_rising_hs.mono _ _)
  | (with_reducible exact impl_storePaths.mono _ _)
  | (with_reducible exact LeO.refl _)
  | (with_reducible exact LeO.none _)
  | (with_reducible refine LeO.ite ?_ ?_)
  | (with_reducible refine LeO.bind ?_ (fun _ => ?_))
  | exact ih0 _ _ _ _
  | exact impl_itemOk.mono _ _ _ _ _ _ _
  | exact impl_rising_hs.mono _ _
  | exact impl_storePaths.mono _ _
  | exact LeO.none _
  | refine LeO.ite ?_ ?_
  | refine LeO.bind ?_ (fun _ => ?_)}
theorem impl_StoreOk.mono : ∀ a0 k, LeO (impl_StoreOk.f k a0) (impl_StoreOk.f (k + 1) a0) := by
 intro a0 k
 have ih0 := impl_StoreOk.mono_l k
 unfold impl_StoreOk.f
 repeat' first
  | (with_reducible exact ih0 _ _ _ _)
  | (with_reducible exact impl_itemOk.mono _ _ _ _ _ _ _)
  | (with_reducible exact impl_rising_hs.mono _ _)
  | (with_reducible exact impl_storePaths.mono _ _)
  | (with_reducible exact LeO.refl _)
  | (with_reducible exact LeO.none _)
  | (with_reducible refine LeO.ite ?_ ?_)
  | (with_reducible refine LeO.bind ?_ (fun _ => ?_))
  | exact ih0 _ _ _ _
  | exact impl_itemOk.mono _ _ _ _ _ _ _
  | exact impl_rising_hs.mono _ _
  | exact impl_storePaths.mono _ _
  | exact LeO.none _
  | refine LeO.ite ?_ ?_
  | refine LeO.bind ?_ (fun _ => ?_)
set_option maxHeartbeats 8000000 in
set_option maxRecDepth 100000 in
theorem impl_StoreOk.calls (k : Nat) (A0 : Option Addr) (c0 : Nat) (l0 : List (S55)) (r : Bool) (w : World) (hE : EnvW w) (hr0 : Kd.C k55 w A0 l0.length l0) (hc0 : l0.length ≤ c0) (h : impl_StoreOk.f k l0 = some r) :
 Calls Tryz.prog 35 #[.slice A0 l0.length c0] w fun e w' => e = .returned (.bool r) ∧ Below w.heap.size w w' := by
 have hu55 := Tryz.underlying55
 have HE := Aside0.mk hE
 clear hE
 have HR0 := Aside0.mk hr0
 have HC0 := Aside0.mk hc0
 clear hr0 hc0
 have HB := Aside0.mk (Below.refl w.heap.size w)
 have H : (if (l0.length : Int) > 300 then (some false) else ((impl_storePaths.f k l0).bind fun t457 => ((impl_rising_hs.f k t457).bind fun t460 => (if t460 = true then (impl_StoreOk.l0 k t457 l0 (l0.length : Int) 0) else (some false))))) = some r := h
 clear h
 by_cases c2 : (l0.length : Int) > 300
 {
 rw [if_pos c2] at H
 have c2b0 : decide (300 < (l0.length : Int)) = true := decide_eq_true c2
 have c2b1 : decide (300 < l0.length) = true := decide_eq_true (by omega)
 clear c2
 obtain rfl := Option.some.inj H
 go_enter Tryz.func35, Tryz.ntmps35
 go_wp2
 go_ret
 exact ⟨eR_, bw_ HB⟩}
 {
 rw [if_neg c2] at H
 have c2b0 : decide (300 < (l0.length : Int)) = false := decide_eq_false c2
 have c2b1 : decide (300 < l0.length) = false := decide_eq_false (by omega)
 clear c2
 replace H := Option.bind_eq_some_iff.mp H
 obtain ⟨t457, A30, H⟩ := H
 have A3 := Aside0.mk A30
 clear A30
 replace H := Option.bind_eq_some_iff.mp H
 obtain ⟨t460, A40, H⟩ := H
 have A4 := Aside0.mk A40
 clear A40
 by_cases c5 : t460 = true
 {
 subst c5
 rw [if_pos rfl] at H
 have H' := Aside0.mk H
 clear H
 go_enter Tryz.func35, Tryz.ntmps35
 go_wp2_with (first | ((with_reducible refine gate_callee (f := 53) rfl ?_); refine gL_ (some 10) Tryz.func53 #[.slice A0 l0.length c0] ?_; (with_reducible refine (impl_storePaths.calls k _ _ l0 t457 _ ?side1 ?side2 A3.out).mono ?_); (case side1 => repeat (first | exact HR0.out | (with_reducible refine Kd.C_alloc ?_ _) | (with_reducible refine Kd.C_drewN ?_ _) | (with_reducible refine Kd.C_drew ?_))); (case side2 => exact HC0.out); rintro e w6 ⟨v458, rfl, ho0, hb⟩; refine ⟨_, rfl, ?_⟩; have HO459 := Aside0.mk (Kd.R_lower ho0 (below_size (bw_ HB))); replace HB := Aside0.mk (below_step (bw_ HB) hb); (try clear hb); (try clear hb2); (try clear hk); (try clear hi); (try clear ho0); obtain ⟨Ao7, co7, eo7⟩ := Kd.R_slice HO459.out; subst eo7) | ((with_reducible refine gate_callee (f := 65) rfl ?_); refine gL_ (some 12) Tryz.func65 #[.slice Ao7 t457.length co7] ?_; (with_reducible refine (impl_rising_hs.calls k _ _ t457 true _ ?side1 ?side2 A4.out).mono ?_); (case side1 => repeat (first | exact (Kd.R_reads' HO459.out).2.2 | (with_reducible refine Kd.C_alloc ?_ _) | (with_reducible refine Kd.C_drewN ?_ _) | (with_reducible refine Kd.C_drew ?_))); (case side2 => exact (Kd.R_reads' HO459.out).2.1); rintro e w' ⟨rfl, ⟨nd, rfl⟩⟩; refine ⟨_, rfl, ?_⟩))
 go_loopg [16] k (fun kq v16 w' => ∃ (x16_1 : Int), v16 = .int .i64 x16_1 ∧ Aside0 (impl_StoreOk.l0 kq t457 l0 (l0.length : Int) x16_1 = some r) ∧ Aside0 (kq ≤ k) ∧ Aside0 (Kd.R Kd.string 9 w' w.heap.size (fun _ => True) (.slice Ao7 t457.length co7) t457) ∧ Aside0 (Below w.heap.size w w'))
 case atStart => exact ⟨(0), (by first | rfl | (simp; done) | (simp [*]; done)), H', ⟨Nat.le_refl _⟩, ⟨kr_ HO459⟩, ⟨bw_ HB⟩⟩
 case round =>
  clear H'
  try clear c2
  try clear c2b0
  try clear c2b1
  try clear p2
  try clear c3
  try clear c5
  try clear c6
  obtain ⟨x16_1, rfl, HA, HK1, HO_3, HB⟩ := hrel
  cases gk with
  | zero => exact absurd HA.out (by simp [impl_StoreOk.l0])
  | succ k1 =>
   have H := HA.out
   clear HA
   simp only [impl_StoreOk.l0] at H
   by_cases c8 : x16_1 < (l0.length : Int)
   {
   rw [if_pos c8] at H
   have c8b0 := decide_eq_true c8
   clear c8
   by_cases c9 : 0 ≤ x16_1
   {
   rw [if_pos c9] at H
   have c9b0 := decide_eq_true c9
   clear c9
   by_cases c10 : x16_1 < (l0.length : Int)
   {
   rw [if_pos c10] at H
   have c10b0 := decide_eq_true c10
   clear c10
   replace H := Option.bind_eq_some_iff.mp H
   obtain ⟨t463, A110, H⟩ := H
   have A11 := Aside0.mk A110
   clear A110
   by_cases c12 : t463 = true
   {
   subst c12
   rw [if_pos rfl] at H
   have H' := Aside0.mk H
   clear H
   have p461 : 0 ≤ (x16_1 : Int) := dA_
   have q461 : x16_1 < (l0.length : Int) := dA_
   obtain ⟨ad461, A461_2, c461_2, A461_4, c461_4, e461, hx461_0, hx461_1, hx461_2, hx461_3, hx461_4, hl461_2, hi461_2, hl461_4, hi461_4⟩ := at_T55 HR0.out x16_1 p461 q461
   cases e461
   replace hx461_0 := hX_ HB hx461_0
   replace hx461_1 := hX_ HB hx461_1
   replace hx461_2 := hX_ HB hx461_2
   replace hx461_3 := hX_ HB hx461_3
   replace hx461_4 := hX_ HB hx461_4
   have HR461_2 := Aside0.mk hi461_2
   have HC461_2 := Aside0.mk hl461_2
   clear hi461_2 hl461_2
   have HR461_4 := Aside0.mk hi461_4
   have HC461_4 := Aside0.mk hl461_4
   clear hi461_4 hl461_4
   replace p461 := eq_true p461
   replace q461 := eq_true q461
   go_wp2_with (first | ((with_reducible refine gate_dst (N := 5) rfl ?_); refine bE_ 5 #[.string (⟨#[]⟩ : ByteArray), .string (⟨#[]⟩ : ByteArray), .slice none 0 0, .string (⟨#[]⟩ : ByteArray), .slice none 0 0] 55 ?_; intro gb462 hg w13 hbox hb; replace HO_3 := Aside0.mk (Kd.R_below (kr_ HO_3) hb); have BK462 := Aside0.mk (hbox); have GW462 := Aside0.mk (ge_ hg (bw_ HB)); have GE462 := Aside0.mk (ge_ hg (bw_ HB)); replace HB := Aside0.mk (below_step (bw_ HB) hb); clear hb hbox hg; have hcz14_0 := cz_ BK462 0 (.string (⟨#[]⟩ : ByteArray)); have hcz14_1 := cz_ BK462 1 (.string (⟨#[]⟩ : ByteArray)); have hcz14_2 := cz_ BK462 2 (.slice none 0 0); have hcz14_3 := cz_ BK462 3 (.string (⟨#[]⟩ : ByteArray)); have hcz14_4 := cz_ BK462 4 (.slice none 0 0); have hfz14_0 := blk_frozen BK462.out 0; have hfz14_1 := blk_frozen BK462.out 1; have hfz14_2 := blk_frozen BK462.out 2; have hfz14_3 := blk_frozen BK462.out 3; have hfz14_4 := blk_frozen BK462.out 4) | ((with_reducible refine gate_callee (f := 66) rfl ?_); refine gL_ (some 22) Tryz.func66 #[.agg #[.string ((rd_T55 l0 x16_1).f0), .string ((rd_T55 l0 x16_1).f1), .slice A461_2 ((rd_T55 l0 x16_1).f2).length c461_2, .string ((rd_T55 l0 x16_1).f3), .slice A461_4 ((rd_T55 l0 x16_1).f4).length c461_4], .slice Ao7 t457.length co7] ?_; (with_reducible refine (impl_itemOk.calls k1 ((rd_T55 l0 x16_1).f0) ((rd_T55 l0 x16_1).f1) _ _ ((rd_T55 l0 x16_1).f2) ((rd_T55 l0 x16_1).f3) _ _ ((rd_T55 l0 x16_1).f4) _ _ t457 true _ ?side1 ?side2 ?side3 ?side4 ?side5 ?side6 ?side7 A11.out).mono ?_); (case side1 => refine EnvW.below HE.out ?_; repeat (first | (with_reducible first | exact HB.out | apply below_alloc | apply pw_below_drewN | apply below_drew1 | refine below_set ?_ GE462.out) | exact HB.out)); (case side2 => exact Kd.C_below HR461_2.out (bw1_ HB GE462)); (case side3 => exact HC461_2.out); (case side4 => exact Kd.C_below HR461_4.out (bw1_ HB GE462)); (case side5 => exact HC461_4.out); (case side6 => refine (Kd.R_reads' (e := 9) (base := w.heap.size) (ok := fun k_ => True) (n := t457.length) (c := co7) ?_).2.2; exact (by (with_reducible repeat (first | apply Kd.R_alloc | apply Kd.R_drewN | apply Kd.R_drew)); exact (Kd.R_mono (Kd.R_far (p := ⟨gb462, 4, none⟩) (Kd.R_far (p := ⟨gb462, 3, none⟩) (Kd.R_far (p := ⟨gb462, 2, none⟩) (Kd.R_far (p := ⟨gb462, 1, none⟩) (Kd.R_far (p := ⟨gb462, 0, none⟩) (Kd.R_types HO_3.out BK462.out (by decide)) (fun _ hk => hk.2) (.string ((rd_T55 l0 x16_1).f0))) (fun _ hk => hk.2) (.string ((rd_T55 l0 x16_1).f1))) (fun _ hk => hk.2) (.slice A461_2 ((rd_T55 l0 x16_1).f2).length c461_2)) (fun _ hk => hk.2) (.string ((rd_T55 l0 x16_1).f3))) (fun _ hk => hk.2) (.slice A461_4 ((rd_T55 l0 x16_1).f4).length c461_4)) (fun _ h_ => h_.1)))); (case side7 => exact (Kd.R_reads' HO_3.out).2.1); rintro e w15 ⟨rfl, hb⟩; refine ⟨_, rfl, ?_⟩; replace HO_3 := Aside0.mk (Kd.R_below (by (with_reducible repeat (first | apply Kd.R_alloc | apply Kd.R_drewN | apply Kd.R_drew)); exact (Kd.R_mono (Kd.R_far (p := ⟨gb462, 4, none⟩) (Kd.R_far (p := ⟨gb462, 3, none⟩) (Kd.R_far (p := ⟨gb462, 2, none⟩) (Kd.R_far (p := ⟨gb462, 1, none⟩) (Kd.R_far (p := ⟨gb462, 0, none⟩) (Kd.R_types HO_3.out BK462.out (by decide)) (fun _ hk => hk.2) (.string ((rd_T55 l0 x16_1).f0))) (fun _ hk => hk.2) (.string ((rd_T55 l0 x16_1).f1))) (fun _ hk => hk.2) (.slice A461_2 ((rd_T55 l0 x16_1).f2).length c461_2)) (fun _ hk => hk.2) (.string ((rd_T55 l0 x16_1).f3))) (fun _ hk => hk.2) (.slice A461_4 ((rd_T55 l0 x16_1).f4).length c461_4)) (fun _ h_ => h_.1))) hb); replace BK462 := Aside0.mk (blk_below (g := gb462) (o := .cells #[.string ((rd_T55 l0 x16_1).f0), .string ((rd_T55 l0 x16_1).f1), .slice A461_2 ((rd_T55 l0 x16_1).f2).length c461_2, .string ((rd_T55 l0 x16_1).f3), .slice A461_4 ((rd_T55 l0 x16_1).f4).length c461_4] 55 (0, 0)) (by (with_reducible repeat (first | refine blk_drewN ?_ _ | refine blk_drew ?_ | refine blk_alloc ?_ _)); refine blk_put (cs := #[.string ((rd_T55 l0 x16_1).f0), .string ((rd_T55 l0 x16_1).f1), .slice A461_2 ((rd_T55 l0 x16_1).f2).length c461_2, .string ((rd_T55 l0 x16_1).f3), .slice none 0 0]) ?_ 4 _ rfl; (with_reducible repeat (first | refine blk_drewN ?_ _ | refine blk_drew ?_ | refine blk_alloc ?_ _)); refine blk_put (cs := #[.string ((rd_T55 l0 x16_1).f0), .string ((rd_T55 l0 x16_1).f1), .slice A461_2 ((rd_T55 l0 x16_1).f2).length c461_2, .string (⟨#[]⟩ : ByteArray), .slice none 0 0]) ?_ 3 _ rfl; (with_reducible repeat (first | refine blk_drewN ?_ _ | refine blk_drew ?_ | refine blk_alloc ?_ _)); refine blk_put (cs := #[.string ((rd_T55 l0 x16_1).f0), .string ((rd_T55 l0 x16_1).f1), .slice none 0 0, .string (⟨#[]⟩ : ByteArray), .slice none 0 0]) ?_ 2 _ rfl; (with_reducible repeat (first | refine blk_drewN ?_ _ | refine blk_drew ?_ | refine blk_alloc ?_ _)); refine blk_put (cs := #[.string ((rd_T55 l0 x16_1).f0), .string (⟨#[]⟩ : ByteArray), .slice none 0 0, .string (⟨#[]⟩ : ByteArray), .slice none 0 0]) ?_ 1 _ rfl; (with_reducible repeat (first | refine blk_drewN ?_ _ | refine blk_drew ?_ | refine blk_alloc ?_ _)); refine blk_put (cs := #[.string (⟨#[]⟩ : ByteArray), .string (⟨#[]⟩ : ByteArray), .slice none 0 0, .string (⟨#[]⟩ : ByteArray), .slice none 0 0]) ?_ 0 _ rfl; (with_reducible repeat (first | refine blk_drewN ?_ _ | refine blk_drew ?_ | refine blk_alloc ?_ _)); exact BK462.out) hb); replace HB := Aside0.mk (below_step (bw1_ HB GE462) hb); (try clear hb); (try clear hb2); (try clear hk); (try clear hi)))
   go_roundg k1
   case measure => have := HK1.out; omega
   case rel => exact ⟨(wrap64 (x16_1 + 1)), (by first | rfl | (simp; done) | (simp [*]; done)), H', ⟨by have := HK1.out; omega⟩, ⟨kr_ HO_3⟩, ⟨bw1_ HB GE462⟩⟩}
   {
   replace c12 := Bool.eq_false_iff.mpr c12
   subst c12
   rw [if_neg (show ¬ (false = true) by decide)] at H
   obtain rfl := Option.some.inj H
   have p461 : 0 ≤ (x16_1 : Int) := dA_
   have q461 : x16_1 < (l0.length : Int) := dA_
   obtain ⟨ad461, A461_2, c461_2, A461_4, c461_4, e461, hx461_0, hx461_1, hx461_2, hx461_3, hx461_4, hl461_2, hi461_2, hl461_4, hi461_4⟩ := at_T55 HR0.out x16_1 p461 q461
   cases e461
   replace hx461_0 := hX_ HB hx461_0
   replace hx461_1 := hX_ HB hx461_1
   replace hx461_2 := hX_ HB hx461_2
   replace hx461_3 := hX_ HB hx461_3
   replace hx461_4 := hX_ HB hx461_4
   have HR461_2 := Aside0.mk hi461_2
   have HC461_2 := Aside0.mk hl461_2
   clear hi461_2 hl461_2
   have HR461_4 := Aside0.mk hi461_4
   have HC461_4 := Aside0.mk hl461_4
   clear hi461_4 hl461_4
   replace p461 := eq_true p461
   replace q461 := eq_true q461
   go_wp2_with (first | ((with_reducible refine gate_dst (N := 5) rfl ?_); refine bE_ 5 #[.string (⟨#[]⟩ : ByteArray), .string (⟨#[]⟩ : ByteArray), .slice none 0 0, .string (⟨#[]⟩ : ByteArray), .slice none 0 0] 55 ?_; intro gb462 hg w16 hbox hb; replace HO_3 := Aside0.mk (Kd.R_below (kr_ HO_3) hb); have BK462 := Aside0.mk (hbox); have GW462 := Aside0.mk (ge_ hg (bw_ HB)); have GE462 := Aside0.mk (ge_ hg (bw_ HB)); replace HB := Aside0.mk (below_step (bw_ HB) hb); clear hb hbox hg; have hcz17_0 := cz_ BK462 0 (.string (⟨#[]⟩ : ByteArray)); have hcz17_1 := cz_ BK462 1 (.string (⟨#[]⟩ : ByteArray)); have hcz17_2 := cz_ BK462 2 (.slice none 0 0); have hcz17_3 := cz_ BK462 3 (.string (⟨#[]⟩ : ByteArray)); have hcz17_4 := cz_ BK462 4 (.slice none 0 0); have hfz17_0 := blk_frozen BK462.out 0; have hfz17_1 := blk_frozen BK462.out 1; have hfz17_2 := blk_frozen BK462.out 2; have hfz17_3 := blk_frozen BK462.out 3; have hfz17_4 := blk_frozen BK462.out 4) | ((with_reducible refine gate_callee (f := 66) rfl ?_); refine gL_ (some 22) Tryz.func66 #[.agg #[.string ((rd_T55 l0 x16_1).f0), .string ((rd_T55 l0 x16_1).f1), .slice A461_2 ((rd_T55 l0 x16_1).f2).length c461_2, .string ((rd_T55 l0 x16_1).f3), .slice A461_4 ((rd_T55 l0 x16_1).f4).length c461_4], .slice Ao7 t457.length co7] ?_; (with_reducible refine (impl_itemOk.calls k1 ((rd_T55 l0 x16_1).f0) ((rd_T55 l0 x16_1).f1) _ _ ((rd_T55 l0 x16_1).f2) ((rd_T55 l0 x16_1).f3) _ _ ((rd_T55 l0 x16_1).f4) _ _ t457 false _ ?side1 ?side2 ?side3 ?side4 ?side5 ?side6 ?side7 A11.out).mono ?_); (case side1 => refine EnvW.below HE.out ?_; repeat (first | (with_reducible first | exact HB.out | apply below_alloc | apply pw_below_drewN | apply below_drew1 | refine below_set ?_ GE462.out) | exact HB.out)); (case side2 => exact Kd.C_below HR461_2.out (bw1_ HB GE462)); (case side3 => exact HC461_2.out); (case side4 => exact Kd.C_below HR461_4.out (bw1_ HB GE462)); (case side5 => exact HC461_4.out); (case side6 => refine (Kd.R_reads' (e := 9) (base := w.heap.size) (ok := fun k_ => True) (n := t457.length) (c := co7) ?_).2.2; exact (by (with_reducible repeat (first | apply Kd.R_alloc | apply Kd.R_drewN | apply Kd.R_drew)); exact (Kd.R_mono (Kd.R_far (p := ⟨gb462, 4, none⟩) (Kd.R_far (p := ⟨gb462, 3, none⟩) (Kd.R_far (p := ⟨gb462, 2, none⟩) (Kd.R_far (p := ⟨gb462, 1, none⟩) (Kd.R_far (p := ⟨gb462, 0, none⟩) (Kd.R_types HO_3.out BK462.out (by decide)) (fun _ hk => hk.2) (.string ((rd_T55 l0 x16_1).f0))) (fun _ hk => hk.2) (.string ((rd_T55 l0 x16_1).f1))) (fun _ hk => hk.2) (.slice A461_2 ((rd_T55 l0 x16_1).f2).length c461_2)) (fun _ hk => hk.2) (.string ((rd_T55 l0 x16_1).f3))) (fun _ hk => hk.2) (.slice A461_4 ((rd_T55 l0 x16_1).f4).length c461_4)) (fun _ h_ => h_.1)))); (case side7 => exact (Kd.R_reads' HO_3.out).2.1); rintro e w18 ⟨rfl, hb⟩; refine ⟨_, rfl, ?_⟩; replace HO_3 := Aside0.mk (Kd.R_below (by (with_reducible repeat (first | apply Kd.R_alloc | apply Kd.R_drewN | apply Kd.R_drew)); exact (Kd.R_mono (Kd.R_far (p := ⟨gb462, 4, none⟩) (Kd.R_far (p := ⟨gb462, 3, none⟩) (Kd.R_far (p := ⟨gb462, 2, none⟩) (Kd.R_far (p := ⟨gb462, 1, none⟩) (Kd.R_far (p := ⟨gb462, 0, none⟩) (Kd.R_types HO_3.out BK462.out (by decide)) (fun _ hk => hk.2) (.string ((rd_T55 l0 x16_1).f0))) (fun _ hk => hk.2) (.string ((rd_T55 l0 x16_1).f1))) (fun _ hk => hk.2) (.slice A461_2 ((rd_T55 l0 x16_1).f2).length c461_2)) (fun _ hk => hk.2) (.string ((rd_T55 l0 x16_1).f3))) (fun _ hk => hk.2) (.slice A461_4 ((rd_T55 l0 x16_1).f4).length c461_4)) (fun _ h_ => h_.1))) hb); replace BK462 := Aside0.mk (blk_below (g := gb462) (o := .cells #[.string ((rd_T55 l0 x16_1).f0), .string ((rd_T55 l0 x16_1).f1), .slice A461_2 ((rd_T55 l0 x16_1).f2).length c461_2, .string ((rd_T55 l0 x16_1).f3), .slice A461_4 ((rd_T55 l0 x16_1).f4).length c461_4] 55 (0, 0)) (by (with_reducible repeat (first | refine blk_drewN ?_ _ | refine blk_drew ?_ | refine blk_alloc ?_ _)); refine blk_put (cs := #[.string ((rd_T55 l0 x16_1).f0), .string ((rd_T55 l0 x16_1).f1), .slice A461_2 ((rd_T55 l0 x16_1).f2).length c461_2, .string ((rd_T55 l0 x16_1).f3), .slice none 0 0]) ?_ 4 _ rfl; (with_reducible repeat (first | refine blk_drewN ?_ _ | refine blk_drew ?_ | refine blk_alloc ?_ _)); refine blk_put (cs := #[.string ((rd_T55 l0 x16_1).f0), .string ((rd_T55 l0 x16_1).f1), .slice A461_2 ((rd_T55 l0 x16_1).f2).length c461_2, .string (⟨#[]⟩ : ByteArray), .slice none 0 0]) ?_ 3 _ rfl; (with_reducible repeat (first | refine blk_drewN ?_ _ | refine blk_drew ?_ | refine blk_alloc ?_ _)); refine blk_put (cs := #[.string ((rd_T55 l0 x16_1).f0), .string ((rd_T55 l0 x16_1).f1), .slice none 0 0, .string (⟨#[]⟩ : ByteArray), .slice none 0 0]) ?_ 2 _ rfl; (with_reducible repeat (first | refine blk_drewN ?_ _ | refine blk_drew ?_ | refine blk_alloc ?_ _)); refine blk_put (cs := #[.string ((rd_T55 l0 x16_1).f0), .string (⟨#[]⟩ : ByteArray), .slice none 0 0, .string (⟨#[]⟩ : ByteArray), .slice none 0 0]) ?_ 1 _ rfl; (with_reducible repeat (first | refine blk_drewN ?_ _ | refine blk_drew ?_ | refine blk_alloc ?_ _)); refine blk_put (cs := #[.string (⟨#[]⟩ : ByteArray), .string (⟨#[]⟩ : ByteArray), .slice none 0 0, .string (⟨#[]⟩ : ByteArray), .slice none 0 0]) ?_ 0 _ rfl; (with_reducible repeat (first | refine blk_drewN ?_ _ | refine blk_drew ?_ | refine blk_alloc ?_ _)); exact BK462.out) hb); replace HB := Aside0.mk (below_step (bw1_ HB GE462) hb); (try clear hb); (try clear hb2); (try clear hk); (try clear hi)))
   go_ret
   exact ⟨eR_, bw1_ HB GE462⟩}}
   {
   rw [if_neg c10] at H
   exact absurd H (by simp)}}
   {
   rw [if_neg c9] at H
   exact absurd H (by simp)}}
   {
   rw [if_neg c8] at H
   have c8b0 := decide_eq_false c8
   (try (have c8b0' := c8b0; simp only [hl461_4] at c8b0'))
   clear c8
   obtain rfl := Option.some.inj H
   go_wp2
   go_ret
   exact ⟨eR_, bw_ HB⟩}}
 {
 replace c5 := Bool.eq_false_iff.mpr c5
 subst c5
 rw [if_neg (show ¬ (false = true) by decide)] at H
 obtain rfl := Option.some.inj H
 go_enter Tryz.func35, Tryz.ntmps35
 go_wp2_with (first | ((with_reducible refine gate_callee (f := 53) rfl ?_); refine gL_ (some 10) Tryz.func53 #[.slice A0 l0.length c0] ?_; (with_reducible refine (impl_storePaths.calls k _ _ l0 t457 _ ?side1 ?side2 A3.out).mono ?_); (case side1 => repeat (first | exact HR0.out | (with_reducible refine Kd.C_alloc ?_ _) | (with_reducible refine Kd.C_drewN ?_ _) | (with_reducible refine Kd.C_drew ?_))); (case side2 => exact HC0.out); rintro e w19 ⟨v458, rfl, ho0, hb⟩; refine ⟨_, rfl, ?_⟩; have HO459 := Aside0.mk (Kd.R_lower ho0 (below_size (bw_ HB))); replace HB := Aside0.mk (below_step (bw_ HB) hb); (try clear hb); (try clear hb2); (try clear hk); (try clear hi); (try clear ho0); obtain ⟨Ao20, co20, eo20⟩ := Kd.R_slice HO459.out; subst eo20) | ((with_reducible refine gate_callee (f := 65) rfl ?_); refine gL_ (some 12) Tryz.func65 #[.slice Ao20 t457.length co20] ?_; (with_reducible refine (impl_rising_hs.calls k _ _ t457 false _ ?side1 ?side2 A4.out).mono ?_); (case side1 => repeat (first | exact (Kd.R_reads' HO459.out).2.2 | (with_reducible refine Kd.C_alloc ?_ _) | (with_reducible refine Kd.C_drewN ?_ _) | (with_reducible refine Kd.C_drew ?_))); (case side2 => exact (Kd.R_reads' HO459.out).2.1); rintro e w' ⟨rfl, ⟨nd, rfl⟩⟩; refine ⟨_, rfl, ?_⟩))
 go_ret
 exact ⟨eR_, bw_ HB⟩
}}
end Go.Proofs.YtikjbfjnbhaljaaGreatDoor.P
end

section
namespace Go.Proofs.YtikjbfjnbhaljaaGreatDoor.P
open Go.RowKit Go.Proofs.YtikjbfjnbhaljaaGreatDoorW.PrintWords Go.Proofs.YtikjbfjnbhaljaaGreatDoorW.PrintLast Go.Proofs.YtikjbfjnbhaljaaGreatDoorW.PrintMore Go.Proofs.YtikjbfjnbhaljaaGreatDoorM
attribute [local go_sem] max2_int min2_int max_two min_two max_three min_three max_four min_four
set_option linter.unusedVariables false
set_option linter.unusedSimpArgs false
def spec_StoreOk.l0 : Nat → List (S55) → List ByteArray → Int → Option (Bool)
 | 0, _, _, _ => none
 | k + 1, x0, x3, x4 => if x4 < (x0.length : Int) then (if x4 > 0 then (if 0 ≤ (wrap64 (x4 - 1)) then (if (wrap64 (x4 - 1)) < (x3.length : Int) then (if 0 ≤ x4 then (if x4 < (x3.length : Int) then (if ((Op.bytesLess ((rdOf ByteArray.empty x3 (wrap64 (x4 - 1))).toList) ((rdOf ByteArray.empty x3 x4).toList)) = true) then ((spec_l12ItemOk.f k ((rd_T55 x0 x4).f0) ((rd_T55 x0 x4).f1) ((rd_T55 x0 x4).f2) ((rd_T55 x0 x4).f3) ((rd_T55 x0 x4).f4) x3).bind fun t286 => (if t286 = true then (spec_StoreOk.l0 k x0 x3 (wrap64 (x4 + 1))) else (some false))) else (some false)) else (none)) else (none)) else (none)) else (none)) else (if 0 ≤ x4 then ((spec_l12ItemOk.f k ((rd_T55 x0 x4).f0) ((rd_T55 x0 x4).f1) ((rd_T55 x0 x4).f2) ((rd_T55 x0 x4).f3) ((rd_T55 x0 x4).f4) x3).bind fun t288 => (if t288 = true then (spec_StoreOk.l0 k x0 x3 (wrap64 (x4 + 1))) else (some false))) else (none))) else (some true)
def spec_StoreOk.f (k : Nat) (l0 : List (S55)) : Option (Bool) := if (l0.length : Int) > 300 then (some false) else ((spec_l12Paths.f k l0).bind fun t280 => (spec_StoreOk.l0 k l0 t280 0))
def spec_StoreOk.T7 : Bool × List (List Nat × List Nat) := (true, [([], []), ([0], [0]), ([1], [1]), ([2], [2]), ([2], [2]), ([4, 2], [2, 4]), ([3, 5, 2], [2, 3, 5]), ([6, 2], [2, 6]), ([2], [2]), ([2], [2]), ([8, 9, 2], [2, 8, 9]), ([10, 2], [2, 10]), ([7, 11, 2], [2, 7, 11]), ([2, 12], [2, 12]), ([13, 2], [13]), ([14], [14]), ([14], [14]), ([15, 16, 14], [14, 15, 16]), ([17, 14], [14, 17]), ([14], [14]), ([18, 19, 14, 14], [14, 18, 19]), ([20, 14], [14, 20]), ([14, 21], [14, 21])])
def spec_StoreOk.B7 : List Nat := [0, 1, 3, 7, 7, 23, 63, 127, 7, 7, 775, 1799, 4095, 8191, 16383, 32767, 32767, 131071, 262143, 32767, 1048575, 2097151, 4194303]
theorem spec_StoreOk.tab7 : rtab .any (opsOf Tryz.f33 7) = spec_StoreOk.T7 := by kernel_rfl
theorem spec_StoreOk.bits7 : waitsOk spec_StoreOk.T7.2 spec_StoreOk.B7 = true := by kernel_rfl
set_option maxHeartbeats 8000000 in
set_option maxRecDepth 100000 in
theorem spec_StoreOk.calls (k : Nat) (A0 : Option Addr) (c0 : Nat) (l0 : List (S55)) (r : Bool) (w : World) (hr0 : Kd.C k55 w A0 l0.length l0) (hc0 : l0.length ≤ c0) (h : spec_StoreOk.f k l0 = some r) :
 Calls Tryz.prog 33 #[.slice A0 l0.length c0] w fun e w' => e = .returned (.bool r) ∧ Below w.heap.size w w' := by
 have hu55 := Tryz.underlying55
 have HR0 := Aside0.mk hr0
 have HC0 := Aside0.mk hc0
 clear hr0 hc0
 have HB := Aside0.mk (Below.refl w.heap.size w)
 have H : (if (l0.length : Int) > 300 then (some false) else ((spec_l12Paths.f k l0).bind fun t280 => (spec_StoreOk.l0 k l0 t280 0))) = some r := h
 clear h
 by_cases c2 : (l0.length : Int) > 300
 {
 rw [if_pos c2] at H
 have c2b0 : decide (300 < (l0.length : Int)) = true := decide_eq_true c2
 have c2b1 : decide (300 < l0.length) = true := decide_eq_true (by omega)
 clear c2
 obtain rfl := Option.some.inj H
 go_enter Tryz.func33, Tryz.ntmps33
 go_wp2
 go_ret
 exact ⟨eR_, bw_ HB⟩}
 {
 rw [if_neg c2] at H
 have c2b0 : decide (300 < (l0.length : Int)) = false := decide_eq_false c2
 have c2b1 : decide (300 < l0.length) = false := decide_eq_false (by omega)
 clear c2
 replace H := Option.bind_eq_some_iff.mp H
 obtain ⟨t280, A30, H⟩ := H
 have A3 := Aside0.mk A30
 clear A30
 have H' := Aside0.mk H
 clear H
 go_enter Tryz.func33, Tryz.ntmps33
 go_wp2_with (first | ((with_reducible refine gate_callee (f := 63) rfl ?_); refine gL_ (some 9) Tryz.func63 #[.slice A0 l0.length c0] ?_; (with_reducible refine (spec_l12Paths.calls k _ _ l0 t280 _ ?side1 ?side2 A3.out).mono ?_); (case side1 => repeat (first | exact HR0.out | (with_reducible refine Kd.C_alloc ?_ _) | (with_reducible refine Kd.C_drewN ?_ _) | (with_reducible refine Kd.C_drew ?_))); (case side2 => exact HC0.out); rintro e w4 ⟨v281, rfl, ho0, hb⟩; refine ⟨_, rfl, ?_⟩; have HO282 := Aside0.mk (Kd.R_lower ho0 (below_size (bw_ HB))); replace HB := Aside0.mk (below_step (bw_ HB) hb); (try clear hb); (try clear hb2); (try clear hk); (try clear hi); (try clear ho0)))
 go_loopg [4] k (fun kq v4 w' => ∃ (x4_1 : Int), v4 = .int .i64 x4_1 ∧ Aside0 (spec_StoreOk.l0 kq l0 t280 x4_1 = some r) ∧ Aside0 (kq ≤ k) ∧ Aside0 (Kd.R Kd.string 9 w' w.heap.size (fun _ => True) v281 t280) ∧ Aside0 (Below w.heap.size w w'))
 case atStart => exact ⟨(0), (by first | rfl | (simp; done) | (simp [*]; done)), H', ⟨Nat.le_refl _⟩, ⟨kr_ HO282⟩, ⟨bw_ HB⟩⟩
 case round =>
  clear H'
  try clear c2
  try clear c2b0
  try clear c2b1
  try clear p2
  try clear c3
  obtain ⟨x4_1, rfl, HA, HK1, HO_3, HB⟩ := hrel
  cases gk with
  | zero => exact absurd HA.out (by simp [spec_StoreOk.l0])
  | succ k1 =>
   have H := HA.out
   clear HA
   simp only [spec_StoreOk.l0] at H
   by_cases c5 : x4_1 < (l0.length : Int)
   {
   rw [if_pos c5] at H
   have c5b0 := decide_eq_true c5
   clear c5
   by_cases c6 : x4_1 > 0
   {
   rw [if_pos c6] at H
   have c6b0 : decide (0 < x4_1) = true := decide_eq_true c6
   clear c6
   obtain ⟨ji7, hji7⟩ : ∃ j_ : Int, (wrap64 (x4_1 - 1)) = j_ := ⟨_, rfl⟩
   replace H : (if 0 ≤ (ji7) then (if (ji7) < (t280.length : Int) then (if 0 ≤ x4_1 then (if x4_1 < (t280.length : Int) then (if ((Op.bytesLess ((rdOf ByteArray.empty t280 (ji7)).toList) ((rdOf ByteArray.empty t280 x4_1).toList)) = true) then ((spec_l12ItemOk.f k1 ((rd_T55 l0 x4_1).f0) ((rd_T55 l0 x4_1).f1) ((rd_T55 l0 x4_1).f2) ((rd_T55 l0 x4_1).f3) ((rd_T55 l0 x4_1).f4) t280).bind fun t286 => (if t286 = true then (spec_StoreOk.l0 k1 l0 t280 (wrap64 (x4_1 + 1))) else (some false))) else (some false)) else (none)) else (none)) else (none)) else (none)) = some r := by first | (rw [hji7] at H; exact H) | (simp only [hji7] at H ⊢; exact H)
   have hji7w : (IntKind.i64.wrap (x4_1 - 1)) = ji7 := (i64_w _).trans hji7
   by_cases c8 : 0 ≤ (ji7)
   {
   rw [if_pos c8] at H
   have c8b0 := decide_eq_true c8
   clear c8
   by_cases c9 : (ji7) < (t280.length : Int)
   {
   rw [if_pos c9] at H
   have c9b0 := decide_eq_true c9
   clear c9
   by_cases c10 : 0 ≤ x4_1
   {
   rw [if_pos c10] at H
   have c10b0 := decide_eq_true c10
   clear c10
   by_cases c11 : x4_1 < (t280.length : Int)
   {
   rw [if_pos c11] at H
   have c11b0 := decide_eq_true c11
   clear c11
   by_cases c12 : ((Op.bytesLess ((rdOf ByteArray.empty t280 (ji7)).toList) ((rdOf ByteArray.empty t280 x4_1).toList)) = true)
   {
   rw [if_pos c12] at H
   have c12b0 : (Op.bytesLess ((rdOf ByteArray.empty t280 (ji7)).toList) ((rdOf ByteArray.empty t280 x4_1).toList)) = true := c12
   clear c12
   replace H := Option.bind_eq_some_iff.mp H
   obtain ⟨t286, A130, H⟩ := H
   have A13 := Aside0.mk A130
   clear A130
   by_cases c14 : t286 = true
   {
   subst c14
   rw [if_pos rfl] at H
   have H' := Aside0.mk H
   clear H
   try go_wp2
   replace HO_3 := Aside0.mk (Kd.R_drew HO_3.out)
   replace HB := Aside0.mk (below_drew1 HB.out)
   obtain ⟨Ao16, co16, eo16⟩ := Kd.R_slice HO_3.out
   (first | subst eo16 | (injection eo16 with f1_ f2_ f3_; have f4_ := f1_.symm; have f5_ := f3_.symm; clear f1_ f2_ f3_; subst f4_; subst f5_))
   have p283 : 0 ≤ ((ji7) : Int) := dA_
   have q283 : (ji7) < (t280.length : Int) := dA_
   obtain ⟨ad283, e283, hx283_0⟩ := Kd.at_string (Kd.R_reads' HO_3.out).2.2 (ji7) p283 q283
   cases e283
   replace p283 := eq_true p283
   replace q283 := eq_true q283
   have p284 : 0 ≤ (x4_1 : Int) := dA_
   have q284 : x4_1 < (t280.length : Int) := dA_
   obtain ⟨ad284, e284, hx284_0⟩ := Kd.at_string (Kd.R_reads' HO_3.out).2.2 x4_1 p284 q284
   obtain rfl : ad283 = ad284 := (by injection e284)
   replace p284 := eq_true p284
   replace q284 := eq_true q284
   have p285 : 0 ≤ (x4_1 : Int) := dA_
   have q285 : x4_1 < (l0.length : Int) := dA_
   obtain ⟨ad285, A285_2, c285_2, A285_4, c285_4, e285, hx285_0, hx285_1, hx285_2, hx285_3, hx285_4, hl285_2, hi285_2, hl285_4, hi285_4⟩ := at_T55 HR0.out x4_1 p285 q285
   have hw285_4 := hx285_4
   have hw285_3 := hx285_3
   have hw285_2 := hx285_2
   have hw285_1 := hx285_1
   have hw285_0 := hx285_0
   cases e285
   replace hx285_0 := hX_ HB hx285_0
   replace hx285_1 := hX_ HB hx285_1
   replace hx285_2 := hX_ HB hx285_2
   replace hx285_3 := hX_ HB hx285_3
   replace hx285_4 := hX_ HB hx285_4
   have HR285_2 := Aside0.mk hi285_2
   have HC285_2 := Aside0.mk hl285_2
   clear hi285_2 hl285_2
   have HR285_4 := Aside0.mk hi285_4
   have HC285_4 := Aside0.mk hl285_4
   clear hi285_4 hl285_4
   replace p285 := eq_true p285
   replace q285 := eq_true q285
   refine start_ (n := 23) (S := fun w' => w'.cell? (ad283.add ((ji7)).toNat) = some (.string (rdOf ByteArray.empty t280 (ji7))) ∧ w'.cell? (ad283.add (x4_1).toNat) = some (.string (rdOf ByteArray.empty t280 x4_1)) ∧ w'.cell? (ad285.add ((x4_1).toNat * 5)) = some (.string ((rd_T55 l0 x4_1).f0)) ∧ w'.cell? ⟨(ad285.add ((x4_1).toNat * 5)).block, (ad285.add ((x4_1).toNat * 5)).off + 1, none⟩ = some (.string ((rd_T55 l0 x4_1).f1)) ∧ w'.cell? ⟨(ad285.add ((x4_1).toNat * 5)).block, (ad285.add ((x4_1).toNat * 5)).off + 2, none⟩ = some (.slice A285_2 ((rd_T55 l0 x4_1).f2).length c285_2) ∧ w'.cell? ⟨(ad285.add ((x4_1).toNat * 5)).block, (ad285.add ((x4_1).toNat * 5)).off + 3, none⟩ = some (.string ((rd_T55 l0 x4_1).f3)) ∧ w'.cell? ⟨(ad285.add ((x4_1).toNat * 5)).block, (ad285.add ((x4_1).toNat * 5)).off + 4, none⟩ = some (.slice A285_4 ((rd_T55 l0 x4_1).f4).length c285_4)) (ds := []) (bs_ 23 0) (by kernel_rfl) rfl (by kernel_rfl) ⟨hx283_0, hx284_0, ((HB.out.cell (World.block_lt_of_cell? w _ hw285_0)).trans hw285_0), ((HB.out.cell (World.block_lt_of_cell? w _ hw285_1)).trans hw285_1), ((HB.out.cell (World.block_lt_of_cell? w _ hw285_2)).trans hw285_2), ((HB.out.cell (World.block_lt_of_cell? w _ hw285_3)).trans hw285_3), ((HB.out.cell (World.block_lt_of_cell? w _ hw285_4)).trans hw285_4)⟩ (fun hHeld => ?_); refine with_tabW spec_StoreOk.tab7 spec_StoreOk.bits7 (fun HT_ HW_ => ?_)
   generalize wr.drew = w15 at HO_3 HB HR285_2 HR285_4 hx283_0 hx284_0 hx285_0 hx285_1 hx285_2 hx285_3 hx285_4 hHeld ⊢
   refine pS_ 0 ?_
   refine pS_ 1 ?_
   refine pS_ 2 ?_
   refine pS_ 3 ?_
   refine pS_ 4 ?_
   refine pS_ 5 ?_
   refine pS_ 6 ?_
   refine pS_ 8 ?_
   refine pS_ 9 ?_
   refine pS_ 10 ?_
   refine t7_ 7 hHeld ?_
   refine t7_ 11 hHeld ?_
   refine pS_ 12 ?_
   refine pS_ 13 ?_
   refine pS_ 14 ?_
   refine pS_ 15 ?_
   refine pS_ 16 ?_
   refine pS_ 17 ?_
   refine pS_ 19 ?_
   refine t7_ 18 hHeld ?_
   refine oS_ 20 (fun K hK => ?_)
   refine gS_ Tryz.func64 #[.agg #[.string ((rd_T55 l0 x4_1).f0), .string ((rd_T55 l0 x4_1).f1), .slice A285_2 ((rd_T55 l0 x4_1).f2).length c285_2, .string ((rd_T55 l0 x4_1).f3), .slice A285_4 ((rd_T55 l0 x4_1).f4).length c285_4], .slice (some ad283) t280.length co16] ?_
   with_reducible refine (spec_l12ItemOk.calls k1 ((rd_T55 l0 x4_1).f0) ((rd_T55 l0 x4_1).f1) _ _ ((rd_T55 l0 x4_1).f2) ((rd_T55 l0 x4_1).f3) _ _ ((rd_T55 l0 x4_1).f4) _ _ t280 true _ ?side1 ?side2 ?side3 ?side4 ?side5 ?side6 A13.out).mono ?_
   (case side1 => exact cS_ HR285_2 HB)
   (case side2 => exact HC285_2.out)
   (case side3 => exact cS_ HR285_4 HB)
   (case side4 => exact HC285_4.out)
   (case side5 => repeat (first | exact (Kd.R_reads' HO_3.out).2.2 | (with_reducible refine Kd.C_alloc ?_ _) | (with_reducible refine Kd.C_drewN ?_ _) | (with_reducible refine Kd.C_drew ?_)))
   (case side6 => exact (Kd.R_reads' HO_3.out).2.1)
   rintro e w17 ⟨rfl, hb⟩
   have HS0_ := (hb.cell (World.block_lt_of_cell? _ _ (hHeld.1))).trans (hHeld.1)
   have HS1_ := (hb.cell (World.block_lt_of_cell? _ _ (hHeld.2.1))).trans (hHeld.2.1)
   refine ⟨_, rfl, ?_⟩
   replace HO_3 := Aside0.mk (Kd.R_below (kr_ HO_3) hb)
   replace HB := Aside0.mk (below_step (bw_ HB) hb)
   (try clear hb)
   (try clear hb2)
   (try clear hk)
   (try clear hi)
   refine hK.out _ _ ⟨HS0_, HS1_, ((HB.out.cell (World.block_lt_of_cell? w _ hw285_0)).trans hw285_0), ((HB.out.cell (World.block_lt_of_cell? w _ hw285_1)).trans hw285_1), ((HB.out.cell (World.block_lt_of_cell? w _ hw285_2)).trans hw285_2), ((HB.out.cell (World.block_lt_of_cell? w _ hw285_3)).trans hw285_3), ((HB.out.cell (World.block_lt_of_cell? w _ hw285_4)).trans hw285_4)⟩ (fun hHeld => ?_)
   clear hK K
   refine nS_ 36 ?_
   refine pS_ 21 ?_
   refine pS_ 22 ?_
   refine done_ (done_of HT_.out (by kernel_rfl)) ?_
   try go_wp2
   go_roundg k1
   case measure => have := HK1.out; omega
   case rel => exact ⟨(wrap64 (x4_1 + 1)), (by first | rfl | (simp; done) | (simp [*]; done)), H', ⟨by have := HK1.out; omega⟩, ⟨kr_ HO_3⟩, ⟨bw_ HB⟩⟩}
   {
   replace c14 := Bool.eq_false_iff.mpr c14
   subst c14
   rw [if_neg (show ¬ (false = true) by decide)] at H
   obtain rfl := Option.some.inj H
   try go_wp2
   replace HO_3 := Aside0.mk (Kd.R_drew HO_3.out)
   replace HB := Aside0.mk (below_drew1 HB.out)
   obtain ⟨Ao19, co19, eo19⟩ := Kd.R_slice HO_3.out
   (first | subst eo19 | (injection eo19 with f1_ f2_ f3_; have f4_ := f1_.symm; have f5_ := f3_.symm; clear f1_ f2_ f3_; subst f4_; subst f5_))
   have p283 : 0 ≤ ((ji7) : Int) := dA_
   have q283 : (ji7) < (t280.length : Int) := dA_
   obtain ⟨ad283, e283, hx283_0⟩ := Kd.at_string (Kd.R_reads' HO_3.out).2.2 (ji7) p283 q283
   cases e283
   replace p283 := eq_true p283
   replace q283 := eq_true q283
   have p284 : 0 ≤ (x4_1 : Int) := dA_
   have q284 : x4_1 < (t280.length : Int) := dA_
   obtain ⟨ad284, e284, hx284_0⟩ := Kd.at_string (Kd.R_reads' HO_3.out).2.2 x4_1 p284 q284
   obtain rfl : ad283 = ad284 := (by injection e284)
   replace p284 := eq_true p284
   replace q284 := eq_true q284
   have p285 : 0 ≤ (x4_1 : Int) := dA_
   have q285 : x4_1 < (l0.length : Int) := dA_
   obtain ⟨ad285, A285_2, c285_2, A285_4, c285_4, e285, hx285_0, hx285_1, hx285_2, hx285_3, hx285_4, hl285_2, hi285_2, hl285_4, hi285_4⟩ := at_T55 HR0.out x4_1 p285 q285
   have hw285_4 := hx285_4
   have hw285_3 := hx285_3
   have hw285_2 := hx285_2
   have hw285_1 := hx285_1
   have hw285_0 := hx285_0
   cases e285
   replace hx285_0 := hX_ HB hx285_0
   replace hx285_1 := hX_ HB hx285_1
   replace hx285_2 := hX_ HB hx285_2
   replace hx285_3 := hX_ HB hx285_3
   replace hx285_4 := hX_ HB hx285_4
   have HR285_2 := Aside0.mk hi285_2
   have HC285_2 := Aside0.mk hl285_2
   clear hi285_2 hl285_2
   have HR285_4 := Aside0.mk hi285_4
   have HC285_4 := Aside0.mk hl285_4
   clear hi285_4 hl285_4
   replace p285 := eq_true p285
   replace q285 := eq_true q285
   refine start_ (n := 23) (S := fun w' => w'.cell? (ad283.add ((ji7)).toNat) = some (.string (rdOf ByteArray.empty t280 (ji7))) ∧ w'.cell? (ad283.add (x4_1).toNat) = some (.string (rdOf ByteArray.empty t280 x4_1)) ∧ w'.cell? (ad285.add ((x4_1).toNat * 5)) = some (.string ((rd_T55 l0 x4_1).f0)) ∧ w'.cell? ⟨(ad285.add ((x4_1).toNat * 5)).block, (ad285.add ((x4_1).toNat * 5)).off + 1, none⟩ = some (.string ((rd_T55 l0 x4_1).f1)) ∧ w'.cell? ⟨(ad285.add ((x4_1).toNat * 5)).block, (ad285.add ((x4_1).toNat * 5)).off + 2, none⟩ = some (.slice A285_2 ((rd_T55 l0 x4_1).f2).length c285_2) ∧ w'.cell? ⟨(ad285.add ((x4_1).toNat * 5)).block, (ad285.add ((x4_1).toNat * 5)).off + 3, none⟩ = some (.string ((rd_T55 l0 x4_1).f3)) ∧ w'.cell? ⟨(ad285.add ((x4_1).toNat * 5)).block, (ad285.add ((x4_1).toNat * 5)).off + 4, none⟩ = some (.slice A285_4 ((rd_T55 l0 x4_1).f4).length c285_4)) (ds := []) (bs_ 23 0) (by kernel_rfl) rfl (by kernel_rfl) ⟨hx283_0, hx284_0, ((HB.out.cell (World.block_lt_of_cell? w _ hw285_0)).trans hw285_0), ((HB.out.cell (World.block_lt_of_cell? w _ hw285_1)).trans hw285_1), ((HB.out.cell (World.block_lt_of_cell? w _ hw285_2)).trans hw285_2), ((HB.out.cell (World.block_lt_of_cell? w _ hw285_3)).trans hw285_3), ((HB.out.cell (World.block_lt_of_cell? w _ hw285_4)).trans hw285_4)⟩ (fun hHeld => ?_); refine with_tabW spec_StoreOk.tab7 spec_StoreOk.bits7 (fun HT_ HW_ => ?_)
   generalize wr.drew = w18 at HO_3 HB HR285_2 HR285_4 hx283_0 hx284_0 hx285_0 hx285_1 hx285_2 hx285_3 hx285_4 hHeld ⊢
   refine pS_ 0 ?_
   refine pS_ 1 ?_
   refine pS_ 2 ?_
   refine pS_ 3 ?_
   refine pS_ 4 ?_
   refine pS_ 5 ?_
   refine pS_ 6 ?_
   refine pS_ 8 ?_
   refine pS_ 9 ?_
   refine pS_ 10 ?_
   refine t7_ 7 hHeld ?_
   refine t7_ 11 hHeld ?_
   refine pS_ 12 ?_
   refine pS_ 13 ?_
   refine pS_ 14 ?_
   refine pS_ 15 ?_
   refine pS_ 16 ?_
   refine pS_ 17 ?_
   refine pS_ 19 ?_
   refine t7_ 18 hHeld ?_
   refine oS_ 20 (fun K hK => ?_)
   refine gS_ Tryz.func64 #[.agg #[.string ((rd_T55 l0 x4_1).f0), .string ((rd_T55 l0 x4_1).f1), .slice A285_2 ((rd_T55 l0 x4_1).f2).length c285_2, .string ((rd_T55 l0 x4_1).f3), .slice A285_4 ((rd_T55 l0 x4_1).f4).length c285_4], .slice (some ad283) t280.length co19] ?_
   with_reducible refine (spec_l12ItemOk.calls k1 ((rd_T55 l0 x4_1).f0) ((rd_T55 l0 x4_1).f1) _ _ ((rd_T55 l0 x4_1).f2) ((rd_T55 l0 x4_1).f3) _ _ ((rd_T55 l0 x4_1).f4) _ _ t280 false _ ?side1 ?side2 ?side3 ?side4 ?side5 ?side6 A13.out).mono ?_
   (case side1 => exact cS_ HR285_2 HB)
   (case side2 => exact HC285_2.out)
   (case side3 => exact cS_ HR285_4 HB)
   (case side4 => exact HC285_4.out)
   (case side5 => repeat (first | exact (Kd.R_reads' HO_3.out).2.2 | (with_reducible refine Kd.C_alloc ?_ _) | (with_reducible refine Kd.C_drewN ?_ _) | (with_reducible refine Kd.C_drew ?_)))
   (case side6 => exact (Kd.R_reads' HO_3.out).2.1)
   rintro e w20 ⟨rfl, hb⟩
   have HS0_ := (hb.cell (World.block_lt_of_cell? _ _ (hHeld.1))).trans (hHeld.1)
   have HS1_ := (hb.cell (World.block_lt_of_cell? _ _ (hHeld.2.1))).trans (hHeld.2.1)
   refine ⟨_, rfl, ?_⟩
   replace HO_3 := Aside0.mk (Kd.R_below (kr_ HO_3) hb)
   replace HB := Aside0.mk (below_step (bw_ HB) hb)
   (try clear hb)
   (try clear hb2)
   (try clear hk)
   (try clear hi)
   refine hK.out _ _ ⟨HS0_, HS1_, ((HB.out.cell (World.block_lt_of_cell? w _ hw285_0)).trans hw285_0), ((HB.out.cell (World.block_lt_of_cell? w _ hw285_1)).trans hw285_1), ((HB.out.cell (World.block_lt_of_cell? w _ hw285_2)).trans hw285_2), ((HB.out.cell (World.block_lt_of_cell? w _ hw285_3)).trans hw285_3), ((HB.out.cell (World.block_lt_of_cell? w _ hw285_4)).trans hw285_4)⟩ (fun hHeld => ?_)
   clear hK K
   refine nS_ 36 ?_
   refine pS_ 21 ?_
   refine pS_ 22 ?_
   refine done_ (done_of HT_.out (by kernel_rfl)) ?_
   try go_wp2
   go_ret
   exact ⟨by first | rfl | (simp [errW_none, errW_some] <;> rfl) | (simp only [← hji7]; first | rfl | (simp [errW_none, errW_some] <;> rfl)) | (simp [*, errW_none, errW_some] <;> rfl), bw_ HB⟩}}
   {
   rw [if_neg c12] at H
   have c12b0 : (Op.bytesLess ((rdOf ByteArray.empty t280 (ji7)).toList) ((rdOf ByteArray.empty t280 x4_1).toList)) = false := by simpa using c12
   clear c12
   obtain rfl := Option.some.inj H
   try go_wp2
   replace HO_3 := Aside0.mk (Kd.R_drew HO_3.out)
   replace HB := Aside0.mk (below_drew1 HB.out)
   obtain ⟨Ao22, co22, eo22⟩ := Kd.R_slice HO_3.out
   (first | subst eo22 | (injection eo22 with f1_ f2_ f3_; have f4_ := f1_.symm; have f5_ := f3_.symm; clear f1_ f2_ f3_; subst f4_; subst f5_))
   have p283 : 0 ≤ ((ji7) : Int) := dA_
   have q283 : (ji7) < (t280.length : Int) := dA_
   obtain ⟨ad283, e283, hx283_0⟩ := Kd.at_string (Kd.R_reads' HO_3.out).2.2 (ji7) p283 q283
   cases e283
   replace p283 := eq_true p283
   replace q283 := eq_true q283
   have p284 : 0 ≤ (x4_1 : Int) := dA_
   have q284 : x4_1 < (t280.length : Int) := dA_
   obtain ⟨ad284, e284, hx284_0⟩ := Kd.at_string (Kd.R_reads' HO_3.out).2.2 x4_1 p284 q284
   obtain rfl : ad283 = ad284 := (by injection e284)
   replace p284 := eq_true p284
   replace q284 := eq_true q284
   refine start_ (n := 23) (S := fun w' => w'.cell? (ad283.add ((ji7)).toNat) = some (.string (rdOf ByteArray.empty t280 (ji7))) ∧ w'.cell? (ad283.add (x4_1).toNat) = some (.string (rdOf ByteArray.empty t280 x4_1))) (ds := []) (bs_ 23 0) (by kernel_rfl) rfl (by kernel_rfl) ⟨hx283_0, hx284_0⟩ (fun hHeld => ?_); refine with_tabW spec_StoreOk.tab7 spec_StoreOk.bits7 (fun HT_ HW_ => ?_)
   generalize wr.drew = w21 at HO_3 HB hx283_0 hx284_0 hHeld ⊢
   refine pS_ 0 ?_
   refine pS_ 1 ?_
   refine pS_ 2 ?_
   refine pS_ 3 ?_
   refine pS_ 4 ?_
   refine pS_ 5 ?_
   refine pS_ 6 ?_
   refine pS_ 8 ?_
   refine pS_ 9 ?_
   refine pS_ 10 ?_
   refine t2_ 7 hHeld ?_
   refine t2_ 11 hHeld ?_
   refine pS_ 12 ?_
   refine pS_ 13 ?_
   refine pS_ 14 ?_
   refine pU_ 15 ?_
   refine pU_ 16 ?_
   refine pU_ 17 ?_
   refine pU_ 18 ?_
   refine pU_ 19 ?_
   refine pU_ 20 ?_
   refine pU_ 21 ?_
   refine pS_ 22 ?_
   refine done_ (done_of HT_.out (by kernel_rfl)) ?_
   try go_wp2
   go_ret
   exact ⟨by first | rfl | (simp [errW_none, errW_some] <;> rfl) | (simp only [← hji7]; first | rfl | (simp [errW_none, errW_some] <;> rfl)) | (simp [*, errW_none, errW_some] <;> rfl), bw_ HB⟩}}
   {
   rw [if_neg c11] at H
   exact absurd H (by simp)}}
   {
   rw [if_neg c10] at H
   exact absurd H (by simp)}}
   {
   rw [if_neg c9] at H
   exact absurd H (by simp)}}
   {
   rw [if_neg c8] at H
   exact absurd H (by simp)}}
   {
   rw [if_neg c6] at H
   have c6b0 : decide (0 < x4_1) = false := decide_eq_false c6
   clear c6
   by_cases c23 : 0 ≤ x4_1
   {
   rw [if_pos c23] at H
   have c23b0 := decide_eq_true c23
   clear c23
   replace H := Option.bind_eq_some_iff.mp H
   obtain ⟨t288, A240, H⟩ := H
   have A24 := Aside0.mk A240
   clear A240
   by_cases c25 : t288 = true
   {
   subst c25
   rw [if_pos rfl] at H
   have H' := Aside0.mk H
   clear H
   try go_wp2
   replace HO_3 := Aside0.mk (Kd.R_drew HO_3.out)
   replace HB := Aside0.mk (below_drew1 HB.out)
   have p287 : 0 ≤ (x4_1 : Int) := dA_
   have q287 : x4_1 < (l0.length : Int) := dA_
   obtain ⟨ad287, A287_2, c287_2, A287_4, c287_4, e287, hx287_0, hx287_1, hx287_2, hx287_3, hx287_4, hl287_2, hi287_2, hl287_4, hi287_4⟩ := at_T55 HR0.out x4_1 p287 q287
   have hw287_4 := hx287_4
   have hw287_3 := hx287_3
   have hw287_2 := hx287_2
   have hw287_1 := hx287_1
   have hw287_0 := hx287_0
   cases e287
   replace hx287_0 := hX_ HB hx287_0
   replace hx287_1 := hX_ HB hx287_1
   replace hx287_2 := hX_ HB hx287_2
   replace hx287_3 := hX_ HB hx287_3
   replace hx287_4 := hX_ HB hx287_4
   have HR287_2 := Aside0.mk hi287_2
   have HC287_2 := Aside0.mk hl287_2
   clear hi287_2 hl287_2
   have HR287_4 := Aside0.mk hi287_4
   have HC287_4 := Aside0.mk hl287_4
   clear hi287_4 hl287_4
   replace p287 := eq_true p287
   replace q287 := eq_true q287
   obtain ⟨Ao27, co27, eo27⟩ := Kd.R_slice HO_3.out
   (first | subst eo27 | (injection eo27 with f1_ f2_ f3_; have f4_ := f1_.symm; have f5_ := f3_.symm; clear f1_ f2_ f3_; subst f4_; subst f5_))
   refine start_ (n := 23) (S := fun w' => w'.cell? (ad287.add ((x4_1).toNat * 5)) = some (.string ((rd_T55 l0 x4_1).f0)) ∧ w'.cell? ⟨(ad287.add ((x4_1).toNat * 5)).block, (ad287.add ((x4_1).toNat * 5)).off + 1, none⟩ = some (.string ((rd_T55 l0 x4_1).f1)) ∧ w'.cell? ⟨(ad287.add ((x4_1).toNat * 5)).block, (ad287.add ((x4_1).toNat * 5)).off + 2, none⟩ = some (.slice A287_2 ((rd_T55 l0 x4_1).f2).length c287_2) ∧ w'.cell? ⟨(ad287.add ((x4_1).toNat * 5)).block, (ad287.add ((x4_1).toNat * 5)).off + 3, none⟩ = some (.string ((rd_T55 l0 x4_1).f3)) ∧ w'.cell? ⟨(ad287.add ((x4_1).toNat * 5)).block, (ad287.add ((x4_1).toNat * 5)).off + 4, none⟩ = some (.slice A287_4 ((rd_T55 l0 x4_1).f4).length c287_4)) (ds := []) (bs_ 23 0) (by kernel_rfl) rfl (by kernel_rfl) ⟨((HB.out.cell (World.block_lt_of_cell? w _ hw287_0)).trans hw287_0), ((HB.out.cell (World.block_lt_of_cell? w _ hw287_1)).trans hw287_1), ((HB.out.cell (World.block_lt_of_cell? w _ hw287_2)).trans hw287_2), ((HB.out.cell (World.block_lt_of_cell? w _ hw287_3)).trans hw287_3), ((HB.out.cell (World.block_lt_of_cell? w _ hw287_4)).trans hw287_4)⟩ (fun hHeld => ?_); refine with_tabW spec_StoreOk.tab7 spec_StoreOk.bits7 (fun HT_ HW_ => ?_)
   generalize wr.drew = w26 at HO_3 HB HR287_2 HR287_4 hx287_0 hx287_1 hx287_2 hx287_3 hx287_4 hHeld ⊢
   refine pS_ 0 ?_
   refine pS_ 1 ?_
   refine pS_ 2 ?_
   refine pU_ 3 ?_
   refine pU_ 4 ?_
   refine pU_ 5 ?_
   refine pU_ 6 ?_
   refine pU_ 7 ?_
   refine pU_ 8 ?_
   refine pU_ 9 ?_
   refine pU_ 10 ?_
   refine pU_ 11 ?_
   refine pU_ 12 ?_
   refine pS_ 13 ?_
   refine pS_ 14 ?_
   refine pS_ 15 ?_
   refine pS_ 16 ?_
   refine pS_ 17 ?_
   refine pS_ 19 ?_
   refine t5_ 18 hHeld ?_
   refine oS_ 20 (fun K hK => ?_)
   refine gS_ Tryz.func64 #[.agg #[.string ((rd_T55 l0 x4_1).f0), .string ((rd_T55 l0 x4_1).f1), .slice A287_2 ((rd_T55 l0 x4_1).f2).length c287_2, .string ((rd_T55 l0 x4_1).f3), .slice A287_4 ((rd_T55 l0 x4_1).f4).length c287_4], .slice Ao27 t280.length co27] ?_
   with_reducible refine (spec_l12ItemOk.calls k1 ((rd_T55 l0 x4_1).f0) ((rd_T55 l0 x4_1).f1) _ _ ((rd_T55 l0 x4_1).f2) ((rd_T55 l0 x4_1).f3) _ _ ((rd_T55 l0 x4_1).f4) _ _ t280 true _ ?side1 ?side2 ?side3 ?side4 ?side5 ?side6 A24.out).mono ?_
   (case side1 => exact cS_ HR287_2 HB)
   (case side2 => exact HC287_2.out)
   (case side3 => exact cS_ HR287_4 HB)
   (case side4 => exact HC287_4.out)
   (case side5 => repeat (first | exact (Kd.R_reads' HO_3.out).2.2 | (with_reducible refine Kd.C_alloc ?_ _) | (with_reducible refine Kd.C_drewN ?_ _) | (with_reducible refine Kd.C_drew ?_)))
   (case side6 => exact (Kd.R_reads' HO_3.out).2.1)
   rintro e w28 ⟨rfl, hb⟩
   refine ⟨_, rfl, ?_⟩
   replace HO_3 := Aside0.mk (Kd.R_below (kr_ HO_3) hb)
   replace HB := Aside0.mk (below_step (bw_ HB) hb)
   (try clear hb)
   (try clear hb2)
   (try clear hk)
   (try clear hi)
   refine hK.out _ _ ⟨((HB.out.cell (World.block_lt_of_cell? w _ hw287_0)).trans hw287_0), ((HB.out.cell (World.block_lt_of_cell? w _ hw287_1)).trans hw287_1), ((HB.out.cell (World.block_lt_of_cell? w _ hw287_2)).trans hw287_2), ((HB.out.cell (World.block_lt_of_cell? w _ hw287_3)).trans hw287_3), ((HB.out.cell (World.block_lt_of_cell? w _ hw287_4)).trans hw287_4)⟩ (fun hHeld => ?_)
   clear hK K
   refine nS_ 36 ?_
   refine pS_ 21 ?_
   refine pS_ 22 ?_
   refine done_ (done_of HT_.out (by kernel_rfl)) ?_
   try go_wp2
   go_roundg k1
   case measure => have := HK1.out; omega
   case rel => exact ⟨(wrap64 (x4_1 + 1)), (by first | rfl | (simp; done) | (simp [*]; done)), H', ⟨by have := HK1.out; omega⟩, ⟨kr_ HO_3⟩, ⟨bw_ HB⟩⟩}
   {
   replace c25 := Bool.eq_false_iff.mpr c25
   subst c25
   rw [if_neg (show ¬ (false = true) by decide)] at H
   obtain rfl := Option.some.inj H
   try go_wp2
   replace HO_3 := Aside0.mk (Kd.R_drew HO_3.out)
   replace HB := Aside0.mk (below_drew1 HB.out)
   have p287 : 0 ≤ (x4_1 : Int) := dA_
   have q287 : x4_1 < (l0.length : Int) := dA_
   obtain ⟨ad287, A287_2, c287_2, A287_4, c287_4, e287, hx287_0, hx287_1, hx287_2, hx287_3, hx287_4, hl287_2, hi287_2, hl287_4, hi287_4⟩ := at_T55 HR0.out x4_1 p287 q287
   have hw287_4 := hx287_4
   have hw287_3 := hx287_3
   have hw287_2 := hx287_2
   have hw287_1 := hx287_1
   have hw287_0 := hx287_0
   cases e287
   replace hx287_0 := hX_ HB hx287_0
   replace hx287_1 := hX_ HB hx287_1
   replace hx287_2 := hX_ HB hx287_2
   replace hx287_3 := hX_ HB hx287_3
   replace hx287_4 := hX_ HB hx287_4
   have HR287_2 := Aside0.mk hi287_2
   have HC287_2 := Aside0.mk hl287_2
   clear hi287_2 hl287_2
   have HR287_4 := Aside0.mk hi287_4
   have HC287_4 := Aside0.mk hl287_4
   clear hi287_4 hl287_4
   replace p287 := eq_true p287
   replace q287 := eq_true q287
   obtain ⟨Ao30, co30, eo30⟩ := Kd.R_slice HO_3.out
   (first | subst eo30 | (injection eo30 with f1_ f2_ f3_; have f4_ := f1_.symm; have f5_ := f3_.symm; clear f1_ f2_ f3_; subst f4_; subst f5_))
   refine start_ (n := 23) (S := fun w' => w'.cell? (ad287.add ((x4_1).toNat * 5)) = some (.string ((rd_T55 l0 x4_1).f0)) ∧ w'.cell? ⟨(ad287.add ((x4_1).toNat * 5)).block, (ad287.add ((x4_1).toNat * 5)).off + 1, none⟩ = some (.string ((rd_T55 l0 x4_1).f1)) ∧ w'.cell? ⟨(ad287.add ((x4_1).toNat * 5)).block, (ad287.add ((x4_1).toNat * 5)).off + 2, none⟩ = some (.slice A287_2 ((rd_T55 l0 x4_1).f2).length c287_2) ∧ w'.cell? ⟨(ad287.add ((x4_1).toNat * 5)).block, (ad287.add ((x4_1).toNat * 5)).off + 3, none⟩ = some (.string ((rd_T55 l0 x4_1).f3)) ∧ w'.cell? ⟨(ad287.add ((x4_1).toNat * 5)).block, (ad287.add ((x4_1).toNat * 5)).off + 4, none⟩ = some (.slice A287_4 ((rd_T55 l0 x4_1).f4).length c287_4)) (ds := []) (bs_ 23 0) (by kernel_rfl) rfl (by kernel_rfl) ⟨((HB.out.cell (World.block_lt_of_cell? w _ hw287_0)).trans hw287_0), ((HB.out.cell (World.block_lt_of_cell? w _ hw287_1)).trans hw287_1), ((HB.out.cell (World.block_lt_of_cell? w _ hw287_2)).trans hw287_2), ((HB.out.cell (World.block_lt_of_cell? w _ hw287_3)).trans hw287_3), ((HB.out.cell (World.block_lt_of_cell? w _ hw287_4)).trans hw287_4)⟩ (fun hHeld => ?_); refine with_tabW spec_StoreOk.tab7 spec_StoreOk.bits7 (fun HT_ HW_ => ?_)
   generalize wr.drew = w29 at HO_3 HB HR287_2 HR287_4 hx287_0 hx287_1 hx287_2 hx287_3 hx287_4 hHeld ⊢
   refine pS_ 0 ?_
   refine pS_ 1 ?_
   refine pS_ 2 ?_
   refine pU_ 3 ?_
   refine pU_ 4 ?_
   refine pU_ 5 ?_
   refine pU_ 6 ?_
   refine pU_ 7 ?_
   refine pU_ 8 ?_
   refine pU_ 9 ?_
   refine pU_ 10 ?_
   refine pU_ 11 ?_
   refine pU_ 12 ?_
   refine pS_ 13 ?_
   refine pS_ 14 ?_
   refine pS_ 15 ?_
   refine pS_ 16 ?_
   refine pS_ 17 ?_
   refine pS_ 19 ?_
   refine t5_ 18 hHeld ?_
   refine oS_ 20 (fun K hK => ?_)
   refine gS_ Tryz.func64 #[.agg #[.string ((rd_T55 l0 x4_1).f0), .string ((rd_T55 l0 x4_1).f1), .slice A287_2 ((rd_T55 l0 x4_1).f2).length c287_2, .string ((rd_T55 l0 x4_1).f3), .slice A287_4 ((rd_T55 l0 x4_1).f4).length c287_4], .slice Ao30 t280.length co30] ?_
   with_reducible refine (spec_l12ItemOk.calls k1 ((rd_T55 l0 x4_1).f0) ((rd_T55 l0 x4_1).f1) _ _ ((rd_T55 l0 x4_1).f2) ((rd_T55 l0 x4_1).f3) _ _ ((rd_T55 l0 x4_1).f4) _ _ t280 false _ ?side1 ?side2 ?side3 ?side4 ?side5 ?side6 A24.out).mono ?_
   (case side1 => exact cS_ HR287_2 HB)
   (case side2 => exact HC287_2.out)
   (case side3 => exact cS_ HR287_4 HB)
   (case side4 => exact HC287_4.out)
   (case side5 => repeat (first | exact (Kd.R_reads' HO_3.out).2.2 | (with_reducible refine Kd.C_alloc ?_ _) | (with_reducible refine Kd.C_drewN ?_ _) | (with_reducible refine Kd.C_drew ?_)))
   (case side6 => exact (Kd.R_reads' HO_3.out).2.1)
   rintro e w31 ⟨rfl, hb⟩
   refine ⟨_, rfl, ?_⟩
   replace HO_3 := Aside0.mk (Kd.R_below (kr_ HO_3) hb)
   replace HB := Aside0.mk (below_step (bw_ HB) hb)
   (try clear hb)
   (try clear hb2)
   (try clear hk)
   (try clear hi)
   refine hK.out _ _ ⟨((HB.out.cell (World.block_lt_of_cell? w _ hw287_0)).trans hw287_0), ((HB.out.cell (World.block_lt_of_cell? w _ hw287_1)).trans hw287_1), ((HB.out.cell (World.block_lt_of_cell? w _ hw287_2)).trans hw287_2), ((HB.out.cell (World.block_lt_of_cell? w _ hw287_3)).trans hw287_3), ((HB.out.cell (World.block_lt_of_cell? w _ hw287_4)).trans hw287_4)⟩ (fun hHeld => ?_)
   clear hK K
   refine nS_ 36 ?_
   refine pS_ 21 ?_
   refine pS_ 22 ?_
   refine done_ (done_of HT_.out (by kernel_rfl)) ?_
   try go_wp2
   go_ret
   exact ⟨eR_, bw_ HB⟩}}
   {
   rw [if_neg c23] at H
   exact absurd H (by simp)}}}
   {
   rw [if_neg c5] at H
   have c5b0 := decide_eq_false c5
   (try (have c5b0' := c5b0; simp only [hl287_4] at c5b0'))
   clear c5
   obtain rfl := Option.some.inj H
   go_wp2
   go_ret
   exact ⟨eR_, bw_ HB⟩
}}
end Go.Proofs.YtikjbfjnbhaljaaGreatDoor.P
end

section
namespace Go.Proofs.YtikjbfjnbhaljaaGreatDoor.P
open Go.RowKit Go.Proofs.YtikjbfjnbhaljaaGreatDoorW.PrintWords Go.Proofs.YtikjbfjnbhaljaaGreatDoorW.PrintLast Go.Proofs.YtikjbfjnbhaljaaGreatDoorW.PrintMore Go.Proofs.YtikjbfjnbhaljaaGreatDoorM
attribute [local go_sem] max2_int min2_int max_two min_two max_three min_three max_four min_four
set_option linter.unusedVariables false
set_option linter.unusedSimpArgs false
mutual
def impl_Optimise.l0 : Nat → List ((ByteArray × Bool) × Bool) → Int → List (S55) → Int → Int → Option (Int)
 | 0, _, _, _, _, _ => none
 | k + 1, x3, x4, x14, x15, x16 => if x16 < x15 then (if 0 ≤ x16 then (if x16 < (x14.length : Int) then (impl_Optimise.l1 k x3 x4 x14 x15 x16 ((rd_T55 x14 x16).f4) (((rd_T55 x14 x16).f4).length : Int) 0) else (none)) else (none)) else (some x4)
def impl_Optimise.l1 : Nat → List ((ByteArray × Bool) × Bool) → Int → List (S55) → Int → Int → List (S57) → Int → Int → Option (Int)
 | 0, _, _, _, _, _, _, _, _ => none
 | k + 1, x3, x4, x14, x15, x16, x21, x22, x23 => if x23 < x22 then (if 0 ≤ x23 then (if x23 < (x21.length : Int) then (if ((rd_T57 x21 x23).f1) = 2 then (if ((rd_T57 x21 x23).f2).size ≤ 9223372036854775807 then (if (mgetD false x3 ((rd_T57 x21 x23).f2, (rd_T57 x21 x23).f3)) = true then (if x3.length < 1099511627776 then (impl_Optimise.l1 k (x3 ++ [(((rd_T57 x21 x23).f2, (rd_T57 x21 x23).f3), true)]) (wrap64 (x4 + (((rd_T57 x21 x23).f2).size : Int))) x14 x15 x16 x21 x22 (wrap64 (x23 + 1))) else (none)) else (if x3.length < 1099511627776 then (impl_Optimise.l1 k (x3 ++ [(((rd_T57 x21 x23).f2, (rd_T57 x21 x23).f3), true)]) x4 x14 x15 x16 x21 x22 (wrap64 (x23 + 1))) else (none))) else (none)) else (impl_Optimise.l1 k x3 x4 x14 x15 x16 x21 x22 (wrap64 (x23 + 1)))) else (none)) else (none)) else (impl_Optimise.l0 k x3 x4 x14 x15 (wrap64 (x16 + 1)))
end
def impl_Optimise.f (k : Nat) (l0 : List (S55)) : Option (Int) := (impl_StoreOk.f k l0).bind fun t464 => (if t464 = true then (impl_Optimise.l0 k (([] : List ((ByteArray × Bool) × Bool))) 0 l0 (l0.length : Int) 0) else (some (-1)))
set_option maxHeartbeats 8000000 in
set_option maxRecDepth 100000 in
theorem impl_Optimise.calls (k : Nat) (A0 : Option Addr) (c0 : Nat) (l0 : List (S55)) (r : Int) (w : World) (hE : EnvW w) (hr0 : Kd.C k55 w A0 l0.length l0) (hc0 : l0.length ≤ c0) (h : impl_Optimise.f k l0 = some r) :
 Calls Tryz.prog 11 #[.slice A0 l0.length c0] w fun e w' => e = .returned (.int .i64 r) ∧ Below w.heap.size w w' := by
 have hu55 := Tryz.underlying55
 have hu57 := Tryz.underlying57
 have hu61 := Tryz.underlying61
 have HE := Aside0.mk hE
 clear hE
 have HR0 := Aside0.mk hr0
 have HC0 := Aside0.mk hc0
 clear hr0 hc0
 have HB := Aside0.mk (Below.refl w.heap.size w)
 have H : ((impl_StoreOk.f k l0).bind fun t464 => (if t464 = true then (impl_Optimise.l0 k (([] : List ((ByteArray × Bool) × Bool))) 0 l0 (l0.length : Int) 0) else (some (-1)))) = some r := h
 clear h
 replace H := Option.bind_eq_some_iff.mp H
 obtain ⟨t464, A20, H⟩ := H
 have A2 := Aside0.mk A20
 clear A20
 by_cases c3 : t464 = true
 {
 subst c3
 rw [if_pos rfl] at H
 obtain ⟨y465, hy465⟩ : ∃ y_ : List ((ByteArray × Bool) × Bool), y_ = (([] : List ((ByteArray × Bool) × Bool))) := ⟨_, rfl⟩
 replace H : (impl_Optimise.l0 k y465 0 l0 (l0.length : Int) 0) = some r := by first | (rw [hy465]; with_reducible exact H) | (have H2_ := (Option.bind_some _ _).symm.trans H; rw [hy465]; with_reducible exact H2_) | (have H2_ := (Option.bind_some _ _).symm.trans H; with_reducible exact H2_) | with_reducible exact H | (rw [hy465]; exact H) | exact H
 have Ny465 := Aside0.mk hy465
 clear hy465
 have H' := Aside0.mk H
 clear H
 go_enter Tryz.func11, Tryz.ntmps11
 go_wp2_with (first | ((with_reducible refine gate_callee (f := 35) rfl ?_); refine gL_ (some 11) Tryz.func35 #[.slice A0 l0.length c0] ?_; (with_reducible refine (impl_StoreOk.calls k _ _ l0 true _ ?side1 ?side2 ?side3 A2.out).mono ?_); (case side1 => refine EnvW.below HE.out ?_; repeat (first | (with_reducible first | exact HB.out | apply below_alloc | apply pw_below_drewN | apply below_drew1) | exact HB.out)); (case side2 => repeat (first | exact HR0.out | (with_reducible refine Kd.C_alloc ?_ _) | (with_reducible refine Kd.C_drewN ?_ _) | (with_reducible refine Kd.C_drew ?_))); (case side3 => exact HC0.out); rintro e w4 ⟨rfl, hb⟩; refine ⟨_, rfl, ?_⟩; replace HB := Aside0.mk (below_step (bw_ HB) hb); (try clear hb); (try clear hb2); (try clear hk); (try clear hi)) | ((with_reducible refine gate_dst (N := 13) rfl ?_); refine map_new kkC ekBool rfl (N := 13) rfl 59 rfl ?_; intro gm467 gg6 w5 hmp hb; rw [← Ny465.out] at hmp; have HM466 := Aside0.mk (hmp); have GMgm467 := Aside0.mk (ge_ gg6 (bw_ HB)); replace HB := Aside0.mk (below_step (bw_ HB) hb); clear hb hmp gg6))
 go_loopg [4, 16] k (fun kq v4 v16 w' => ∃ (x3_1 : List ((ByteArray × Bool) × Bool)) (x4_1 : Int) (x16_1 : Int), v4 = .int .i64 x4_1 ∧ v16 = .int .i64 x16_1 ∧ Aside0 (impl_Optimise.l0 kq x3_1 x4_1 l0 (l0.length : Int) x16_1 = some r) ∧ Aside0 (kq ≤ k) ∧ Aside0 (MapAt kkC ekBool w' gm467 x3_1) ∧ Aside0 (Below w.heap.size w w'))
 case atStart => exact ⟨(y465), (0), (0), (by first | rfl | (simp; done) | (simp [*]; done)), (by first | rfl | (simp; done) | (simp [*]; done)), H', ⟨Nat.le_refl _⟩, ⟨mp_ HM466⟩, ⟨bw_ HB⟩⟩
 case round =>
  clear H'
  try clear c1
  try clear p2
  try clear c3
  obtain ⟨x3_1, x4_1, x16_1, rfl, rfl, HA, HK1, HM_3, HB⟩ := hrel
  cases gk with
  | zero => exact absurd HA.out (by simp [impl_Optimise.l0])
  | succ k1 =>
   have H := HA.out
   clear HA
   simp only [impl_Optimise.l0] at H
   by_cases c7 : x16_1 < (l0.length : Int)
   {
   rw [if_pos c7] at H
   have c7b0 := decide_eq_true c7
   clear c7
   by_cases c8 : 0 ≤ x16_1
   {
   rw [if_pos c8] at H
   have c8b0 := decide_eq_true c8
   clear c8
   by_cases c9 : x16_1 < (l0.length : Int)
   {
   rw [if_pos c9] at H
   have c9b0 := decide_eq_true c9
   clear c9
   have H' := Aside0.mk H
   clear H
   have p468 : 0 ≤ (x16_1 : Int) := dA_
   have q468 : x16_1 < (l0.length : Int) := dA_
   obtain ⟨ad468, A468_2, c468_2, A468_4, c468_4, e468, hx468_0, hx468_1, hx468_2, hx468_3, hx468_4, hl468_2, hi468_2, hl468_4, hi468_4⟩ := at_T55 HR0.out x16_1 p468 q468
   cases e468
   replace hx468_0 := hX_ HB hx468_0
   replace hx468_1 := hX_ HB hx468_1
   replace hx468_2 := hX_ HB hx468_2
   replace hx468_3 := hX_ HB hx468_3
   replace hx468_4 := hX_ HB hx468_4
   have HR468_2 := Aside0.mk hi468_2
   have HC468_2 := Aside0.mk hl468_2
   clear hi468_2 hl468_2
   have HR468_4 := Aside0.mk hi468_4
   have HC468_4 := Aside0.mk hl468_4
   clear hi468_4 hl468_4
   replace p468 := eq_true p468
   replace q468 := eq_true q468
   go_wp2_with (first | ((with_reducible refine gate_dst (N := 6) rfl ?_); refine bE_ 6 #[.string (⟨#[]⟩ : ByteArray), .string (⟨#[]⟩ : ByteArray), .slice none 0 0, .string (⟨#[]⟩ : ByteArray), .slice none 0 0] 55 ?_; intro gb469 hg w10 hbox hb; replace HM_3 := Aside0.mk (MapAt.below (mp_ HM_3) hb); have BK469 := Aside0.mk (hbox); have GW469 := Aside0.mk (ge_ hg (bw_ HB)); have GE469 := Aside0.mk (ge_ hg (bw_ HB)); replace HB := Aside0.mk (below_step (bw_ HB) hb); clear hb hbox hg; have hcz11_0 := cz_ BK469 0 (.string (⟨#[]⟩ : ByteArray)); have hcz11_1 := cz_ BK469 1 (.string (⟨#[]⟩ : ByteArray)); have hcz11_2 := cz_ BK469 2 (.slice none 0 0); have hcz11_3 := cz_ BK469 3 (.string (⟨#[]⟩ : ByteArray)); have hcz11_4 := cz_ BK469 4 (.slice none 0 0); have hfz11_0 := blk_frozen BK469.out 0; have hfz11_1 := blk_frozen BK469.out 1; have hfz11_2 := blk_frozen BK469.out 2; have hfz11_3 := blk_frozen BK469.out 3; have hfz11_4 := blk_frozen BK469.out 4))
   go_loopg [4, 23] k1 (fun kq v4 v23 w' => ∃ (x3_2 : List ((ByteArray × Bool) × Bool)) (x4_2 : Int) (x23_2 : Int), v4 = .int .i64 x4_2 ∧ v23 = .int .i64 x23_2 ∧ Aside0 (impl_Optimise.l1 kq x3_2 x4_2 l0 (l0.length : Int) x16_1 ((rd_T55 l0 x16_1).f4) (((rd_T55 l0 x16_1).f4).length : Int) x23_2 = some r) ∧ Aside0 (kq ≤ k1) ∧ Aside0 (MapAt kkC ekBool w' gm467 x3_2) ∧ Aside0 (w'.heap[gb469]? = some (.cells #[.string ((rd_T55 l0 x16_1).f0), .string ((rd_T55 l0 x16_1).f1), (.slice A468_2 ((rd_T55 l0 x16_1).f2).length c468_2), .string ((rd_T55 l0 x16_1).f3), (.slice A468_4 ((rd_T55 l0 x16_1).f4).length c468_4)] 55 (0, 0))) ∧ Aside0 (Below w.heap.size w w'))
   case atStart => exact ⟨(x3_1), (x4_1), (0), (by first | rfl | (simp; done) | (simp [*]; done)), (by first | rfl | (simp; done) | (simp [*]; done)), H', ⟨Nat.le_refl _⟩, ⟨mp_ HM_3⟩, ⟨by (with_reducible repeat (first | refine blk_drewN ?_ _ | refine blk_drew ?_ | refine blk_alloc ?_ _)); refine blk_put (cs := #[.string ((rd_T55 l0 x16_1).f0), .string ((rd_T55 l0 x16_1).f1), .slice A468_2 ((rd_T55 l0 x16_1).f2).length c468_2, .string ((rd_T55 l0 x16_1).f3), .slice none 0 0]) ?_ 4 _ rfl; (with_reducible repeat (first | refine blk_drewN ?_ _ | refine blk_drew ?_ | refine blk_alloc ?_ _)); refine blk_put (cs := #[.string ((rd_T55 l0 x16_1).f0), .string ((rd_T55 l0 x16_1).f1), .slice A468_2 ((rd_T55 l0 x16_1).f2).length c468_2, .string (⟨#[]⟩ : ByteArray), .slice none 0 0]) ?_ 3 _ rfl; (with_reducible repeat (first | refine blk_drewN ?_ _ | refine blk_drew ?_ | refine blk_alloc ?_ _)); refine blk_put (cs := #[.string ((rd_T55 l0 x16_1).f0), .string ((rd_T55 l0 x16_1).f1), .slice none 0 0, .string (⟨#[]⟩ : ByteArray), .slice none 0 0]) ?_ 2 _ rfl; (with_reducible repeat (first | refine blk_drewN ?_ _ | refine blk_drew ?_ | refine blk_alloc ?_ _)); refine blk_put (cs := #[.string ((rd_T55 l0 x16_1).f0), .string (⟨#[]⟩ : ByteArray), .slice none 0 0, .string (⟨#[]⟩ : ByteArray), .slice none 0 0]) ?_ 1 _ rfl; (with_reducible repeat (first | refine blk_drewN ?_ _ | refine blk_drew ?_ | refine blk_alloc ?_ _)); refine blk_put (cs := #[.string (⟨#[]⟩ : ByteArray), .string (⟨#[]⟩ : ByteArray), .slice none 0 0, .string (⟨#[]⟩ : ByteArray), .slice none 0 0]) ?_ 0 _ rfl; (with_reducible repeat (first | refine blk_drewN ?_ _ | refine blk_drew ?_ | refine blk_alloc ?_ _)); exact BK469.out⟩, ⟨bw1_ HB GE469⟩⟩
   case round =>
    clear H'
    try clear c1
    try clear p2
    try clear c3
    try clear c4
    try clear p4
    try clear q4
    try clear hx4
    try clear c7
    try clear c7b0
    try clear c8
    try clear c8b0
    try clear c9
    try clear c9b0
    try clear c11
    try clear hcz11_0
    try clear hcz11_1
    try clear hcz11_2
    try clear hcz11_3
    try clear hcz11_4
    try clear hfz11_0
    try clear hfz11_1
    try clear hfz11_2
    try clear hfz11_3
    try clear hfz11_4
    try clear hx468_0
    try clear hx468_1
    try clear hx468_2
    try clear hx468_3
    try clear hx468_4
    try clear p2
    try clear p468
    try clear q468
    obtain ⟨x3_2, x4_2, x23_2, rfl, rfl, HA, HK2, HM_3, BK469, HB⟩ := hrel
    cases gk with
    | zero => exact absurd HA.out (by simp [impl_Optimise.l1])
    | succ k2 =>
     have H := HA.out
     clear HA
     simp only [impl_Optimise.l1] at H
     by_cases c12 : x23_2 < (((rd_T55 l0 x16_1).f4).length : Int)
     {
     rw [if_pos c12] at H
     have c12b0 := decide_eq_true c12
     (try (have c12b0' := c12b0; simp only [hl468_4] at c12b0'))
     clear c12
     by_cases c13 : 0 ≤ x23_2
     {
     rw [if_pos c13] at H
     have c13b0 := decide_eq_true c13
     clear c13
     by_cases c14 : x23_2 < (((rd_T55 l0 x16_1).f4).length : Int)
     {
     rw [if_pos c14] at H
     have c14b0 := decide_eq_true c14
     (try (have c14b0' := c14b0; simp only [hl468_4] at c14b0'))
     clear c14
     by_cases c15 : ((rd_T57 ((rd_T55 l0 x16_1).f4) x23_2).f1) = 2
     {
     rw [if_pos c15] at H
     have c15b0 : (((rd_T57 ((rd_T55 l0 x16_1).f4) x23_2).f1) == 2) = true := beq_iff_eq.mpr c15
     have c15b1 : (((rd_T57 ((rd_T55 l0 x16_1).f4) x23_2).f1) != 2) = false := bne_eq_false_iff_eq.mpr c15
     clear c15
     by_cases c16 : ((rd_T57 ((rd_T55 l0 x16_1).f4) x23_2).f2).size ≤ 9223372036854775807
     {
     rw [if_pos c16] at H
     have c16b0 := eq_true c16
     have c16b1 := decide_eq_true c16
     try have c16b2 : (9223372036854775807 < ((rd_T57 ((rd_T55 l0 x16_1).f4) x23_2).f2).size) = False := eq_false (Nat.not_lt.2 c16)
     clear c16
     by_cases c17 : (mgetD false x3_2 ((rd_T57 ((rd_T55 l0 x16_1).f4) x23_2).f2, (rd_T57 ((rd_T55 l0 x16_1).f4) x23_2).f3)) = true
     {
     rw [if_pos c17] at H
     have c17b0 : (mgetD false x3_2 ((rd_T57 ((rd_T55 l0 x16_1).f4) x23_2).f2, (rd_T57 ((rd_T55 l0 x16_1).f4) x23_2).f3)) = true := c17
     clear c17
     by_cases c18 : x3_2.length < 1099511627776
     {
     rw [if_pos c18] at H
     have LMc18 := Aside0.mk c18
     clear c18
     have c19b0 := eq_true (dA_ : ((rd_T57 ((rd_T55 l0 x16_1).f4) x23_2).f2).size ≤ 9223372036854775807)
     obtain ⟨y473, hy473⟩ : ∃ y_ : List ((ByteArray × Bool) × Bool), y_ = (x3_2 ++ [(((rd_T57 ((rd_T55 l0 x16_1).f4) x23_2).f2, (rd_T57 ((rd_T55 l0 x16_1).f4) x23_2).f3), true)]) := ⟨_, rfl⟩
     replace H : (impl_Optimise.l1 k2 y473 (wrap64 (x4_2 + (((rd_T57 ((rd_T55 l0 x16_1).f4) x23_2).f2).size : Int))) l0 (l0.length : Int) x16_1 ((rd_T55 l0 x16_1).f4) (((rd_T55 l0 x16_1).f4).length : Int) (wrap64 (x23_2 + 1))) = some r := by first | (rw [hy473]; with_reducible exact H) | (have H2_ := (Option.bind_some _ _).symm.trans H; rw [hy473]; with_reducible exact H2_) | (have H2_ := (Option.bind_some _ _).symm.trans H; with_reducible exact H2_) | with_reducible exact H | (rw [hy473]; exact H) | exact H
     have Ny473 := Aside0.mk hy473
     clear hy473
     have H' := Aside0.mk H
     clear H
     have p470 : 0 ≤ (x23_2 : Int) := dA_
     have q470 : x23_2 < (((rd_T55 l0 x16_1).f4).length : Int) := dA_
     obtain ⟨ad470, e470, hx470_0, hx470_1, hx470_2, hx470_3⟩ := at_T57 HR468_4.out x23_2 p470 q470
     cases e470
     replace hx470_0 := hX_ HB hx470_0
     replace hx470_1 := hX_ HB hx470_1
     replace hx470_2 := hX_ HB hx470_2
     replace hx470_3 := hX_ HB hx470_3
     replace p470 := eq_true p470
     replace q470 := eq_true q470
     go_wp2_with (first | ((with_reducible refine gate_dst (N := 8) rfl ?_); refine bE_ 8 #[.string (⟨#[]⟩ : ByteArray), .int .i64 0, .string (⟨#[]⟩ : ByteArray), .bool false] 57 ?_; intro gb471 hg w20 hbox hb; replace HM_3 := Aside0.mk (MapAt.below (mp_ HM_3) hb); have BK471 := Aside0.mk (hbox); have GW471 := Aside0.mk (ge_ hg (bw1_ HB GE469)); have GE471 := Aside0.mk (ge_ hg (bw1_ HB GE469)); replace HB := Aside0.mk (below_step (bw1_ HB GE469) hb); have NB469_471 := Aside0.mk ((by rw [hg]; exact Nat.ne_of_lt (blk_lt (bk_ BK469)) : gb469 ≠ gb471)); have NB471_469 := Aside0.mk ((by rw [hg]; exact Nat.ne_of_gt (blk_lt (bk_ BK469)) : gb471 ≠ gb469)); replace BK469 := Aside0.mk (blk_below (bk_ BK469) hb); clear hb hbox hg; have hnb21 := NB471_469.out; have hnc21 := NB469_471.out; have hcz22_0 := cz_ BK471 0 (.string (⟨#[]⟩ : ByteArray)); have hcz22_1 := cz_ BK471 1 (.int .i64 0); have hcz22_2 := cz_ BK471 2 (.string (⟨#[]⟩ : ByteArray)); have hcz22_3 := cz_ BK471 3 (.bool false); have hfz22_0 := blk_frozen BK471.out 0; have hfz22_1 := blk_frozen BK471.out 1; have hfz22_2 := blk_frozen BK471.out 2; have hfz22_3 := blk_frozen BK471.out 3) | ((with_reducible refine gate_dst (N := 9) rfl ?_); refine bE_ 9 #[.string (⟨#[]⟩ : ByteArray), .bool false] 61 ?_; intro gb472 hg w23 hbox hb; replace HM_3 := Aside0.mk (MapAt.below (mp_ HM_3) hb); have BK472 := Aside0.mk (hbox); have GW472 := Aside0.mk (ge_ hg (bw2_ HB GE469 GE471)); have GE472 := Aside0.mk (ge_ hg (bw2_ HB GE469 GE471)); replace HB := Aside0.mk (below_step (bw2_ HB GE469 GE471) hb); have NB469_472 := Aside0.mk ((by rw [hg]; exact Nat.ne_of_lt (blk_lt (g := gb469) (o := .cells #[.string ((rd_T55 l0 x16_1).f0), .string ((rd_T55 l0 x16_1).f1), .slice A468_2 ((rd_T55 l0 x16_1).f2).length c468_2, .string ((rd_T55 l0 x16_1).f3), .slice (some ad470) ((rd_T55 l0 x16_1).f4).length c468_4] 55 (0, 0)) (by (with_reducible repeat (first | refine blk_drewN ?_ _ | refine blk_drew ?_ | refine blk_alloc ?_ _)); refine blk_far ?_ NB469_471.out _; (with_reducible repeat (first | refine blk_drewN ?_ _ | refine blk_drew ?_ | refine blk_alloc ?_ _)); refine blk_far ?_ NB469_471.out _; (with_reducible repeat (first | refine blk_drewN ?_ _ | refine blk_drew ?_ | refine blk_alloc ?_ _)); refine blk_far ?_ NB469_471.out _; (with_reducible repeat (first | refine blk_drewN ?_ _ | refine blk_drew ?_ | refine blk_alloc ?_ _)); refine blk_far ?_ NB469_471.out _; (with_reducible repeat (first | refine blk_drewN ?_ _ | refine blk_drew ?_ | refine blk_alloc ?_ _)); exact BK469.out)) : gb469 ≠ gb472)); have NB472_469 := Aside0.mk ((by rw [hg]; exact Nat.ne_of_gt (blk_lt (g := gb469) (o := .cells #[.string ((rd_T55 l0 x16_1).f0), .string ((rd_T55 l0 x16_1).f1), .slice A468_2 ((rd_T55 l0 x16_1).f2).length c468_2, .string ((rd_T55 l0 x16_1).f3), .slice (some ad470) ((rd_T55 l0 x16_1).f4).length c468_4] 55 (0, 0)) (by (with_reducible repeat (first | refine blk_drewN ?_ _ | refine blk_drew ?_ | refine blk_alloc ?_ _)); refine blk_far ?_ NB469_471.out _; (with_reducible repeat (first | refine blk_drewN ?_ _ | refine blk_drew ?_ | refine blk_alloc ?_ _)); refine blk_far ?_ NB469_471.out _; (with_reducible repeat (first | refine blk_drewN ?_ _ | refine blk_drew ?_ | refine blk_alloc ?_ _)); refine blk_far ?_ NB469_471.out _; (with_reducible repeat (first | refine blk_drewN ?_ _ | refine blk_drew ?_ | refine blk_alloc ?_ _)); refine blk_far ?_ NB469_471.out _; (with_reducible repeat (first | refine blk_drewN ?_ _ | refine blk_drew ?_ | refine blk_alloc ?_ _)); exact BK469.out)) : gb472 ≠ gb469)); replace BK469 := Aside0.mk (blk_below (g := gb469) (o := .cells #[.string ((rd_T55 l0 x16_1).f0), .string ((rd_T55 l0 x16_1).f1), .slice A468_2 ((rd_T55 l0 x16_1).f2).length c468_2, .string ((rd_T55 l0 x16_1).f3), .slice (some ad470) ((rd_T55 l0 x16_1).f4).length c468_4] 55 (0, 0)) (by (with_reducible repeat (first | refine blk_drewN ?_ _ | refine blk_drew ?_ | refine blk_alloc ?_ _)); refine blk_far ?_ NB469_471.out _; (with_reducible repeat (first | refine blk_drewN ?_ _ | refine blk_drew ?_ | refine blk_alloc ?_ _)); refine blk_far ?_ NB469_471.out _; (with_reducible repeat (first | refine blk_drewN ?_ _ | refine blk_drew ?_ | refine blk_alloc ?_ _)); refine blk_far ?_ NB469_471.out _; (with_reducible repeat (first | refine blk_drewN ?_ _ | refine blk_drew ?_ | refine blk_alloc ?_ _)); refine blk_far ?_ NB469_471.out _; (with_reducible repeat (first | refine blk_drewN ?_ _ | refine blk_drew ?_ | refine blk_alloc ?_ _)); exact BK469.out) hb); have NB471_472 := Aside0.mk ((by rw [hg]; exact Nat.ne_of_lt (blk_lt (g := gb471) (o := .cells #[.string ((rd_T57 ((rd_T55 l0 x16_1).f4) x23_2).f0), .int .i64 ((rd_T57 ((rd_T55 l0 x16_1).f4) x23_2).f1), .string ((rd_T57 ((rd_T55 l0 x16_1).f4) x23_2).f2), .bool ((rd_T57 ((rd_T55 l0 x16_1).f4) x23_2).f3)] 57 (0, 0)) (by (with_reducible repeat (first | refine blk_drewN ?_ _ | refine blk_drew ?_ | refine blk_alloc ?_ _)); refine blk_put (cs := #[.string ((rd_T57 ((rd_T55 l0 x16_1).f4) x23_2).f0), .int .i64 ((rd_T57 ((rd_T55 l0 x16_1).f4) x23_2).f1), .string ((rd_T57 ((rd_T55 l0 x16_1).f4) x23_2).f2), .bool false]) ?_ 3 _ rfl; (with_reducible repeat (first | refine blk_drewN ?_ _ | refine blk_drew ?_ | refine blk_alloc ?_ _)); refine blk_put (cs := #[.string ((rd_T57 ((rd_T55 l0 x16_1).f4) x23_2).f0), .int .i64 ((rd_T57 ((rd_T55 l0 x16_1).f4) x23_2).f1), .string (⟨#[]⟩ : ByteArray), .bool false]) ?_ 2 _ rfl; (with_reducible repeat (first | refine blk_drewN ?_ _ | refine blk_drew ?_ | refine blk_alloc ?_ _)); refine blk_put (cs := #[.string ((rd_T57 ((rd_T55 l0 x16_1).f4) x23_2).f0), .int .i64 0, .string (⟨#[]⟩ : ByteArray), .bool false]) ?_ 1 _ rfl; (with_reducible repeat (first | refine blk_drewN ?_ _ | refine blk_drew ?_ | refine blk_alloc ?_ _)); refine blk_put (cs := #[.string (⟨#[]⟩ : ByteArray), .int .i64 0, .string (⟨#[]⟩ : ByteArray), .bool false]) ?_ 0 _ rfl; (with_reducible repeat (first | refine blk_drewN ?_ _ | refine blk_drew ?_ | refine blk_alloc ?_ _)); exact BK471.out)) : gb471 ≠ gb472)); have NB472_471 := Aside0.mk ((by rw [hg]; exact Nat.ne_of_gt (blk_lt (g := gb471) (o := .cells #[.string ((rd_T57 ((rd_T55 l0 x16_1).f4) x23_2).f0), .int .i64 ((rd_T57 ((rd_T55 l0 x16_1).f4) x23_2).f1), .string ((rd_T57 ((rd_T55 l0 x16_1).f4) x23_2).f2), .bool ((rd_T57 ((rd_T55 l0 x16_1).f4) x23_2).f3)] 57 (0, 0)) (by (with_reducible repeat (first | refine blk_drewN ?_ _ | refine blk_drew ?_ | refine blk_alloc ?_ _)); refine blk_put (cs := #[.string ((rd_T57 ((rd_T55 l0 x16_1).f4) x23_2).f0), .int .i64 ((rd_T57 ((rd_T55 l0 x16_1).f4) x23_2).f1), .string ((rd_T57 ((rd_T55 l0 x16_1).f4) x23_2).f2), .bool false]) ?_ 3 _ rfl; (with_reducible repeat (first | refine blk_drewN ?_ _ | refine blk_drew ?_ | refine blk_alloc ?_ _)); refine blk_put (cs := #[.string ((rd_T57 ((rd_T55 l0 x16_1).f4) x23_2).f0), .int .i64 ((rd_T57 ((rd_T55 l0 x16_1).f4) x23_2).f1), .string (⟨#[]⟩ : ByteArray), .bool false]) ?_ 2 _ rfl; (with_reducible repeat (first | refine blk_drewN ?_ _ | refine blk_drew ?_ | refine blk_alloc ?_ _)); refine blk_put (cs := #[.string ((rd_T57 ((rd_T55 l0 x16_1).f4) x23_2).f0), .int .i64 0, .string (⟨#[]⟩ : ByteArray), .bool false]) ?_ 1 _ rfl; (with_reducible repeat (first | refine blk_drewN ?_ _ | refine blk_drew ?_ | refine blk_alloc ?_ _)); refine blk_put (cs := #[.string (⟨#[]⟩ : ByteArray), .int .i64 0, .string (⟨#[]⟩ : ByteArray), .bool false]) ?_ 0 _ rfl; (with_reducible repeat (first | refine blk_drewN ?_ _ | refine blk_drew ?_ | refine blk_alloc ?_ _)); exact BK471.out)) : gb472 ≠ gb471)); replace BK471 := Aside0.mk (blk_below (g := gb471) (o := .cells #[.string ((rd_T57 ((rd_T55 l0 x16_1).f4) x23_2).f0), .int .i64 ((rd_T57 ((rd_T55 l0 x16_1).f4) x23_2).f1), .string ((rd_T57 ((rd_T55 l0 x16_1).f4) x23_2).f2), .bool ((rd_T57 ((rd_T55 l0 x16_1).f4) x23_2).f3)] 57 (0, 0)) (by (with_reducible repeat (first | refine blk_drewN ?_ _ | refine blk_drew ?_ | refine blk_alloc ?_ _)); refine blk_put (cs := #[.string ((rd_T57 ((rd_T55 l0 x16_1).f4) x23_2).f0), .int .i64 ((rd_T57 ((rd_T55 l0 x16_1).f4) x23_2).f1), .string ((rd_T57 ((rd_T55 l0 x16_1).f4) x23_2).f2), .bool false]) ?_ 3 _ rfl; (with_reducible repeat (first | refine blk_drewN ?_ _ | refine blk_drew ?_ | refine blk_alloc ?_ _)); refine blk_put (cs := #[.string ((rd_T57 ((rd_T55 l0 x16_1).f4) x23_2).f0), .int .i64 ((rd_T57 ((rd_T55 l0 x16_1).f4) x23_2).f1), .string (⟨#[]⟩ : ByteArray), .bool false]) ?_ 2 _ rfl; (with_reducible repeat (first | refine blk_drewN ?_ _ | refine blk_drew ?_ | refine blk_alloc ?_ _)); refine blk_put (cs := #[.string ((rd_T57 ((rd_T55 l0 x16_1).f4) x23_2).f0), .int .i64 0, .string (⟨#[]⟩ : ByteArray), .bool false]) ?_ 1 _ rfl; (with_reducible repeat (first | refine blk_drewN ?_ _ | refine blk_drew ?_ | refine blk_alloc ?_ _)); refine blk_put (cs := #[.string (⟨#[]⟩ : ByteArray), .int .i64 0, .string (⟨#[]⟩ : ByteArray), .bool false]) ?_ 0 _ rfl; (with_reducible repeat (first | refine blk_drewN ?_ _ | refine blk_drew ?_ | refine blk_alloc ?_ _)); exact BK471.out) hb); clear hb hbox hg; have hnb24 := NB472_469.out; have hnc24 := NB469_472.out; have hnb25 := NB472_471.out; have hnc25 := NB471_472.out; have hcz26_0 := cz_ BK472 0 (.string (⟨#[]⟩ : ByteArray)); have hcz26_1 := cz_ BK472 1 (.bool false); have hfz26_0 := blk_frozen BK472.out 0; have hfz26_1 := blk_frozen BK472.out 1; have hcz27_0 := cz_ BK471 0 (.string ((rd_T57 ((rd_T55 l0 x16_1).f4) x23_2).f0)); have hcz27_1 := cz_ BK471 1 (.int .i64 ((rd_T57 ((rd_T55 l0 x16_1).f4) x23_2).f1)); have hcz27_2 := cz_ BK471 2 (.string ((rd_T57 ((rd_T55 l0 x16_1).f4) x23_2).f2)); have hcz27_3 := cz_ BK471 3 (.bool ((rd_T57 ((rd_T55 l0 x16_1).f4) x23_2).f3)); have hfz27_0 := blk_frozen BK471.out 0; have hfz27_1 := blk_frozen BK471.out 1; have hfz27_2 := blk_frozen BK471.out 2; have hfz27_3 := blk_frozen BK471.out 3) | ((with_reducible refine gate_dst (N := 37) rfl ?_); refine map_look kkC ekBool rfl (N := 37) rfl 59 4 _ _ rfl false Tryz.underlying59 rfl gm467 x3_2 ((rd_T57 ((rd_T55 l0 x16_1).f4) x23_2).f2, (rd_T57 ((rd_T55 l0 x16_1).f4) x23_2).f3) rfl rfl (show ((rd_T57 ((rd_T55 l0 x16_1).f4) x23_2).f2).size ≤ 9223372036854775807 from by first | assumption | exact of_eq_true (by assumption) | exact of_decide_eq_true (by assumption) | decide | omega) (mp_ HM_3) ?_; dsimp only [ekI64, ekBool]; (try go_simp)) | ((with_reducible refine gate_put (t := 59) (p := 43) rfl ?_); refine map_put kkC ekBool rfl 59 4 43 _ _ rfl Tryz.underlying59 gm467 x3_2 ((rd_T57 ((rd_T55 l0 x16_1).f4) x23_2).f2, (rd_T57 ((rd_T55 l0 x16_1).f4) x23_2).f3) true rfl rfl (show ((rd_T57 ((rd_T55 l0 x16_1).f4) x23_2).f2).size ≤ 9223372036854775807 from by first | assumption | exact of_eq_true (by assumption) | exact of_decide_eq_true (by assumption) | decide | omega) rfl (mp_ HM_3) LMc18.out ?_; intro w28 hmp hg; rw [← Ny473.out] at hmp; replace BK469 := Aside0.mk (far_blk (mp_ HM_3) hg (show (_ : World).heap[gb469]? = some (.cells #[.string ((rd_T55 l0 x16_1).f0), .string ((rd_T55 l0 x16_1).f1), .slice A468_2 ((rd_T55 l0 x16_1).f2).length c468_2, .string ((rd_T55 l0 x16_1).f3), .slice (some ad470) ((rd_T55 l0 x16_1).f4).length c468_4] 55 (0, 0)) from by (with_reducible repeat (first | refine blk_drewN ?_ _ | refine blk_drew ?_ | refine blk_alloc ?_ _)); refine blk_far ?_ NB469_472.out _; (with_reducible repeat (first | refine blk_drewN ?_ _ | refine blk_drew ?_ | refine blk_alloc ?_ _)); refine blk_far ?_ NB469_472.out _; (with_reducible repeat (first | refine blk_drewN ?_ _ | refine blk_drew ?_ | refine blk_alloc ?_ _)); exact BK469.out)); replace BK471 := Aside0.mk (far_blk (mp_ HM_3) hg (show (_ : World).heap[gb471]? = some (.cells #[.string ((rd_T57 ((rd_T55 l0 x16_1).f4) x23_2).f0), .int .i64 ((rd_T57 ((rd_T55 l0 x16_1).f4) x23_2).f1), .string ((rd_T57 ((rd_T55 l0 x16_1).f4) x23_2).f2), .bool ((rd_T57 ((rd_T55 l0 x16_1).f4) x23_2).f3)] 57 (0, 0)) from by (with_reducible repeat (first | refine blk_drewN ?_ _ | refine blk_drew ?_ | refine blk_alloc ?_ _)); refine blk_far ?_ NB471_472.out _; (with_reducible repeat (first | refine blk_drewN ?_ _ | refine blk_drew ?_ | refine blk_alloc ?_ _)); refine blk_far ?_ NB471_472.out _; (with_reducible repeat (first | refine blk_drewN ?_ _ | refine blk_drew ?_ | refine blk_alloc ?_ _)); exact BK471.out)); replace BK472 := Aside0.mk (far_blk (mp_ HM_3) hg (show (_ : World).heap[gb472]? = some (.cells #[.string ((rd_T57 ((rd_T55 l0 x16_1).f4) x23_2).f2), .bool ((rd_T57 ((rd_T55 l0 x16_1).f4) x23_2).f3)] 61 (0, 0)) from by (with_reducible repeat (first | refine blk_drewN ?_ _ | refine blk_drew ?_ | refine blk_alloc ?_ _)); refine blk_put (cs := #[.string ((rd_T57 ((rd_T55 l0 x16_1).f4) x23_2).f2), .bool false]) ?_ 1 _ rfl; (with_reducible repeat (first | refine blk_drewN ?_ _ | refine blk_drew ?_ | refine blk_alloc ?_ _)); refine blk_put (cs := #[.string (⟨#[]⟩ : ByteArray), .bool false]) ?_ 0 _ rfl; (with_reducible repeat (first | refine blk_drewN ?_ _ | refine blk_drew ?_ | refine blk_alloc ?_ _)); exact BK472.out)); replace HM_3 := Aside0.mk (hmp); replace HB := Aside0.mk (far_below GMgm467.out (below_size (by repeat (first | (with_reducible first | exact HB.out | apply below_alloc | apply pw_below_drewN | apply below_drew1 | refine below_set ?_ GE469.out | refine below_set ?_ GE471.out | refine below_set ?_ GE472.out) | exact HB.out))) hg (by repeat (first | (with_reducible first | exact HB.out | apply below_alloc | apply pw_below_drewN | apply below_drew1 | refine below_set ?_ GE469.out | refine below_set ?_ GE471.out | refine below_set ?_ GE472.out) | exact HB.out))); clear hmp hg))
     go_roundg k2
     case measure => have := HK1.out; have := HK2.out; omega
     case rel => exact ⟨(y473), (wrap64 (x4_2 + (((rd_T57 ((rd_T55 l0 x16_1).f4) x23_2).f2).size : Int))), (wrap64 (x23_2 + 1)), (by first | rfl | (simp; done) | (simp [*]; done)), (by first | rfl | (simp; done) | (simp [*]; done)), H', ⟨by have := HK1.out; have := HK2.out; omega⟩, ⟨mp_ HM_3⟩, ⟨bk_ BK469⟩, ⟨by repeat (first | (with_reducible first | exact HB.out | apply below_alloc | apply pw_below_drewN | apply below_drew1 | refine below_set ?_ GE469.out | refine below_set ?_ GE471.out | refine below_set ?_ GE472.out) | exact HB.out)⟩⟩}
     {
     rw [if_neg c18] at H
     exact absurd H (by simp)}}
     {
     rw [if_neg c17] at H
     have c17b0 : (mgetD false x3_2 ((rd_T57 ((rd_T55 l0 x16_1).f4) x23_2).f2, (rd_T57 ((rd_T55 l0 x16_1).f4) x23_2).f3)) = false := by simpa using c17
     clear c17
     by_cases c29 : x3_2.length < 1099511627776
     {
     rw [if_pos c29] at H
     have LMc29 := Aside0.mk c29
     clear c29
     have c30b0 := eq_true (dA_ : ((rd_T57 ((rd_T55 l0 x16_1).f4) x23_2).f2).size ≤ 9223372036854775807)
     obtain ⟨y474, hy474⟩ : ∃ y_ : List ((ByteArray × Bool) × Bool), y_ = (x3_2 ++ [(((rd_T57 ((rd_T55 l0 x16_1).f4) x23_2).f2, (rd_T57 ((rd_T55 l0 x16_1).f4) x23_2).f3), true)]) := ⟨_, rfl⟩
     replace H : (impl_Optimise.l1 k2 y474 x4_2 l0 (l0.length : Int) x16_1 ((rd_T55 l0 x16_1).f4) (((rd_T55 l0 x16_1).f4).length : Int) (wrap64 (x23_2 + 1))) = some r := by first | (rw [hy474]; with_reducible exact H) | (have H2_ := (Option.bind_some _ _).symm.trans H; rw [hy474]; with_reducible exact H2_) | (have H2_ := (Option.bind_some _ _).symm.trans H; with_reducible exact H2_) | with_reducible exact H | (rw [hy474]; exact H) | exact H
     have Ny474 := Aside0.mk hy474
     clear hy474
     have H' := Aside0.mk H
     clear H
     have p470 : 0 ≤ (x23_2 : Int) := dA_
     have q470 : x23_2 < (((rd_T55 l0 x16_1).f4).length : Int) := dA_
     obtain ⟨ad470, e470, hx470_0, hx470_1, hx470_2, hx470_3⟩ := at_T57 HR468_4.out x23_2 p470 q470
     cases e470
     replace hx470_0 := hX_ HB hx470_0
     replace hx470_1 := hX_ HB hx470_1
     replace hx470_2 := hX_ HB hx470_2
     replace hx470_3 := hX_ HB hx470_3
     replace p470 := eq_true p470
     replace q470 := eq_true q470
     go_wp2_with (first | ((with_reducible refine gate_dst (N := 8) rfl ?_); refine bE_ 8 #[.string (⟨#[]⟩ : ByteArray), .int .i64 0, .string (⟨#[]⟩ : ByteArray), .bool false] 57 ?_; intro gb471 hg w31 hbox hb; replace HM_3 := Aside0.mk (MapAt.below (mp_ HM_3) hb); have BK471 := Aside0.mk (hbox); have GW471 := Aside0.mk (ge_ hg (bw1_ HB GE469)); have GE471 := Aside0.mk (ge_ hg (bw1_ HB GE469)); replace HB := Aside0.mk (below_step (bw1_ HB GE469) hb); have NB469_471 := Aside0.mk ((by rw [hg]; exact Nat.ne_of_lt (blk_lt (bk_ BK469)) : gb469 ≠ gb471)); have NB471_469 := Aside0.mk ((by rw [hg]; exact Nat.ne_of_gt (blk_lt (bk_ BK469)) : gb471 ≠ gb469)); replace BK469 := Aside0.mk (blk_below (bk_ BK469) hb); clear hb hbox hg; have hnb32 := NB471_469.out; have hnc32 := NB469_471.out; have hcz33_0 := cz_ BK471 0 (.string (⟨#[]⟩ : ByteArray)); have hcz33_1 := cz_ BK471 1 (.int .i64 0); have hcz33_2 := cz_ BK471 2 (.string (⟨#[]⟩ : ByteArray)); have hcz33_3 := cz_ BK471 3 (.bool false); have hfz33_0 := blk_frozen BK471.out 0; have hfz33_1 := blk_frozen BK471.out 1; have hfz33_2 := blk_frozen BK471.out 2; have hfz33_3 := blk_frozen BK471.out 3) | ((with_reducible refine gate_dst (N := 9) rfl ?_); refine bE_ 9 #[.string (⟨#[]⟩ : ByteArray), .bool false] 61 ?_; intro gb472 hg w34 hbox hb; replace HM_3 := Aside0.mk (MapAt.below (mp_ HM_3) hb); have BK472 := Aside0.mk (hbox); have GW472 := Aside0.mk (ge_ hg (bw2_ HB GE469 GE471)); have GE472 := Aside0.mk (ge_ hg (bw2_ HB GE469 GE471)); replace HB := Aside0.mk (below_step (bw2_ HB GE469 GE471) hb); have NB469_472 := Aside0.mk ((by rw [hg]; exact Nat.ne_of_lt (blk_lt (g := gb469) (o := .cells #[.string ((rd_T55 l0 x16_1).f0), .string ((rd_T55 l0 x16_1).f1), .slice A468_2 ((rd_T55 l0 x16_1).f2).length c468_2, .string ((rd_T55 l0 x16_1).f3), .slice (some ad470) ((rd_T55 l0 x16_1).f4).length c468_4] 55 (0, 0)) (by (with_reducible repeat (first | refine blk_drewN ?_ _ | refine blk_drew ?_ | refine blk_alloc ?_ _)); refine blk_far ?_ NB469_471.out _; (with_reducible repeat (first | refine blk_drewN ?_ _ | refine blk_drew ?_ | refine blk_alloc ?_ _)); refine blk_far ?_ NB469_471.out _; (with_reducible repeat (first | refine blk_drewN ?_ _ | refine blk_drew ?_ | refine blk_alloc ?_ _)); refine blk_far ?_ NB469_471.out _; (with_reducible repeat (first | refine blk_drewN ?_ _ | refine blk_drew ?_ | refine blk_alloc ?_ _)); refine blk_far ?_ NB469_471.out _; (with_reducible repeat (first | refine blk_drewN ?_ _ | refine blk_drew ?_ | refine blk_alloc ?_ _)); exact BK469.out)) : gb469 ≠ gb472)); have NB472_469 := Aside0.mk ((by rw [hg]; exact Nat.ne_of_gt (blk_lt (g := gb469) (o := .cells #[.string ((rd_T55 l0 x16_1).f0), .string ((rd_T55 l0 x16_1).f1), .slice A468_2 ((rd_T55 l0 x16_1).f2).length c468_2, .string ((rd_T55 l0 x16_1).f3), .slice (some ad470) ((rd_T55 l0 x16_1).f4).length c468_4] 55 (0, 0)) (by (with_reducible repeat (first | refine blk_drewN ?_ _ | refine blk_drew ?_ | refine blk_alloc ?_ _)); refine blk_far ?_ NB469_471.out _; (with_reducible repeat (first | refine blk_drewN ?_ _ | refine blk_drew ?_ | refine blk_alloc ?_ _)); refine blk_far ?_ NB469_471.out _; (with_reducible repeat (first | refine blk_drewN ?_ _ | refine blk_drew ?_ | refine blk_alloc ?_ _)); refine blk_far ?_ NB469_471.out _; (with_reducible repeat (first | refine blk_drewN ?_ _ | refine blk_drew ?_ | refine blk_alloc ?_ _)); refine blk_far ?_ NB469_471.out _; (with_reducible repeat (first | refine blk_drewN ?_ _ | refine blk_drew ?_ | refine blk_alloc ?_ _)); exact BK469.out)) : gb472 ≠ gb469)); replace BK469 := Aside0.mk (blk_below (g := gb469) (o := .cells #[.string ((rd_T55 l0 x16_1).f0), .string ((rd_T55 l0 x16_1).f1), .slice A468_2 ((rd_T55 l0 x16_1).f2).length c468_2, .string ((rd_T55 l0 x16_1).f3), .slice (some ad470) ((rd_T55 l0 x16_1).f4).length c468_4] 55 (0, 0)) (by (with_reducible repeat (first | refine blk_drewN ?_ _ | refine blk_drew ?_ | refine blk_alloc ?_ _)); refine blk_far ?_ NB469_471.out _; (with_reducible repeat (first | refine blk_drewN ?_ _ | refine blk_drew ?_ | refine blk_alloc ?_ _)); refine blk_far ?_ NB469_471.out _; (with_reducible repeat (first | refine blk_drewN ?_ _ | refine blk_drew ?_ | refine blk_alloc ?_ _)); refine blk_far ?_ NB469_471.out _; (with_reducible repeat (first | refine blk_drewN ?_ _ | refine blk_drew ?_ | refine blk_alloc ?_ _)); refine blk_far ?_ NB469_471.out _; (with_reducible repeat (first | refine blk_drewN ?_ _ | refine blk_drew ?_ | refine blk_alloc ?_ _)); exact BK469.out) hb); have NB471_472 := Aside0.mk ((by rw [hg]; exact Nat.ne_of_lt (blk_lt (g := gb471) (o := .cells #[.string ((rd_T57 ((rd_T55 l0 x16_1).f4) x23_2).f0), .int .i64 ((rd_T57 ((rd_T55 l0 x16_1).f4) x23_2).f1), .string ((rd_T57 ((rd_T55 l0 x16_1).f4) x23_2).f2), .bool ((rd_T57 ((rd_T55 l0 x16_1).f4) x23_2).f3)] 57 (0, 0)) (by (with_reducible repeat (first | refine blk_drewN ?_ _ | refine blk_drew ?_ | refine blk_alloc ?_ _)); refine blk_put (cs := #[.string ((rd_T57 ((rd_T55 l0 x16_1).f4) x23_2).f0), .int .i64 ((rd_T57 ((rd_T55 l0 x16_1).f4) x23_2).f1), .string ((rd_T57 ((rd_T55 l0 x16_1).f4) x23_2).f2), .bool false]) ?_ 3 _ rfl; (with_reducible repeat (first | refine blk_drewN ?_ _ | refine blk_drew ?_ | refine blk_alloc ?_ _)); refine blk_put (cs := #[.string ((rd_T57 ((rd_T55 l0 x16_1).f4) x23_2).f0), .int .i64 ((rd_T57 ((rd_T55 l0 x16_1).f4) x23_2).f1), .string (⟨#[]⟩ : ByteArray), .bool false]) ?_ 2 _ rfl; (with_reducible repeat (first | refine blk_drewN ?_ _ | refine blk_drew ?_ | refine blk_alloc ?_ _)); refine blk_put (cs := #[.string ((rd_T57 ((rd_T55 l0 x16_1).f4) x23_2).f0), .int .i64 0, .string (⟨#[]⟩ : ByteArray), .bool false]) ?_ 1 _ rfl; (with_reducible repeat (first | refine blk_drewN ?_ _ | refine blk_drew ?_ | refine blk_alloc ?_ _)); refine blk_put (cs := #[.string (⟨#[]⟩ : ByteArray), .int .i64 0, .string (⟨#[]⟩ : ByteArray), .bool false]) ?_ 0 _ rfl; (with_reducible repeat (first | refine blk_drewN ?_ _ | refine blk_drew ?_ | refine blk_alloc ?_ _)); exact BK471.out)) : gb471 ≠ gb472)); have NB472_471 := Aside0.mk ((by rw [hg]; exact Nat.ne_of_gt (blk_lt (g := gb471) (o := .cells #[.string ((rd_T57 ((rd_T55 l0 x16_1).f4) x23_2).f0), .int .i64 ((rd_T57 ((rd_T55 l0 x16_1).f4) x23_2).f1), .string ((rd_T57 ((rd_T55 l0 x16_1).f4) x23_2).f2), .bool ((rd_T57 ((rd_T55 l0 x16_1).f4) x23_2).f3)] 57 (0, 0)) (by (with_reducible repeat (first | refine blk_drewN ?_ _ | refine blk_drew ?_ | refine blk_alloc ?_ _)); refine blk_put (cs := #[.string ((rd_T57 ((rd_T55 l0 x16_1).f4) x23_2).f0), .int .i64 ((rd_T57 ((rd_T55 l0 x16_1).f4) x23_2).f1), .string ((rd_T57 ((rd_T55 l0 x16_1).f4) x23_2).f2), .bool false]) ?_ 3 _ rfl; (with_reducible repeat (first | refine blk_drewN ?_ _ | refine blk_drew ?_ | refine blk_alloc ?_ _)); refine blk_put (cs := #[.string ((rd_T57 ((rd_T55 l0 x16_1).f4) x23_2).f0), .int .i64 ((rd_T57 ((rd_T55 l0 x16_1).f4) x23_2).f1), .string (⟨#[]⟩ : ByteArray), .bool false]) ?_ 2 _ rfl; (with_reducible repeat (first | refine blk_drewN ?_ _ | refine blk_drew ?_ | refine blk_alloc ?_ _)); refine blk_put (cs := #[.string ((rd_T57 ((rd_T55 l0 x16_1).f4) x23_2).f0), .int .i64 0, .string (⟨#[]⟩ : ByteArray), .bool false]) ?_ 1 _ rfl; (with_reducible repeat (first | refine blk_drewN ?_ _ | refine blk_drew ?_ | refine blk_alloc ?_ _)); refine blk_put (cs := #[.string (⟨#[]⟩ : ByteArray), .int .i64 0, .string (⟨#[]⟩ : ByteArray), .bool false]) ?_ 0 _ rfl; (with_reducible repeat (first | refine blk_drewN ?_ _ | refine blk_drew ?_ | refine blk_alloc ?_ _)); exact BK471.out)) : gb472 ≠ gb471)); replace BK471 := Aside0.mk (blk_below (g := gb471) (o := .cells #[.string ((rd_T57 ((rd_T55 l0 x16_1).f4) x23_2).f0), .int .i64 ((rd_T57 ((rd_T55 l0 x16_1).f4) x23_2).f1), .string ((rd_T57 ((rd_T55 l0 x16_1).f4) x23_2).f2), .bool ((rd_T57 ((rd_T55 l0 x16_1).f4) x23_2).f3)] 57 (0, 0)) (by (with_reducible repeat (first | refine blk_drewN ?_ _ | refine blk_drew ?_ | refine blk_alloc ?_ _)); refine blk_put (cs := #[.string ((rd_T57 ((rd_T55 l0 x16_1).f4) x23_2).f0), .int .i64 ((rd_T57 ((rd_T55 l0 x16_1).f4) x23_2).f1), .string ((rd_T57 ((rd_T55 l0 x16_1).f4) x23_2).f2), .bool false]) ?_ 3 _ rfl; (with_reducible repeat (first | refine blk_drewN ?_ _ | refine blk_drew ?_ | refine blk_alloc ?_ _)); refine blk_put (cs := #[.string ((rd_T57 ((rd_T55 l0 x16_1).f4) x23_2).f0), .int .i64 ((rd_T57 ((rd_T55 l0 x16_1).f4) x23_2).f1), .string (⟨#[]⟩ : ByteArray), .bool false]) ?_ 2 _ rfl; (with_reducible repeat (first | refine blk_drewN ?_ _ | refine blk_drew ?_ | refine blk_alloc ?_ _)); refine blk_put (cs := #[.string ((rd_T57 ((rd_T55 l0 x16_1).f4) x23_2).f0), .int .i64 0, .string (⟨#[]⟩ : ByteArray), .bool false]) ?_ 1 _ rfl; (with_reducible repeat (first | refine blk_drewN ?_ _ | refine blk_drew ?_ | refine blk_alloc ?_ _)); refine blk_put (cs := #[.string (⟨#[]⟩ : ByteArray), .int .i64 0, .string (⟨#[]⟩ : ByteArray), .bool false]) ?_ 0 _ rfl; (with_reducible repeat (first | refine blk_drewN ?_ _ | refine blk_drew ?_ | refine blk_alloc ?_ _)); exact BK471.out) hb); clear hb hbox hg; have hnb35 := NB472_469.out; have hnc35 := NB469_472.out; have hnb36 := NB472_471.out; have hnc36 := NB471_472.out; have hcz37_0 := cz_ BK472 0 (.string (⟨#[]⟩ : ByteArray)); have hcz37_1 := cz_ BK472 1 (.bool false); have hfz37_0 := blk_frozen BK472.out 0; have hfz37_1 := blk_frozen BK472.out 1) | ((with_reducible refine gate_dst (N := 37) rfl ?_); refine map_look kkC ekBool rfl (N := 37) rfl 59 4 _ _ rfl false Tryz.underlying59 rfl gm467 x3_2 ((rd_T57 ((rd_T55 l0 x16_1).f4) x23_2).f2, (rd_T57 ((rd_T55 l0 x16_1).f4) x23_2).f3) rfl rfl (show ((rd_T57 ((rd_T55 l0 x16_1).f4) x23_2).f2).size ≤ 9223372036854775807 from by first | assumption | exact of_eq_true (by assumption) | exact of_decide_eq_true (by assumption) | decide | omega) (mp_ HM_3) ?_; dsimp only [ekI64, ekBool]; (try go_simp)) | ((with_reducible refine gate_put (t := 59) (p := 43) rfl ?_); refine map_put kkC ekBool rfl 59 4 43 _ _ rfl Tryz.underlying59 gm467 x3_2 ((rd_T57 ((rd_T55 l0 x16_1).f4) x23_2).f2, (rd_T57 ((rd_T55 l0 x16_1).f4) x23_2).f3) true rfl rfl (show ((rd_T57 ((rd_T55 l0 x16_1).f4) x23_2).f2).size ≤ 9223372036854775807 from by first | assumption | exact of_eq_true (by assumption) | exact of_decide_eq_true (by assumption) | decide | omega) rfl (mp_ HM_3) LMc29.out ?_; intro w38 hmp hg; rw [← Ny474.out] at hmp; replace BK469 := Aside0.mk (far_blk (mp_ HM_3) hg (show (_ : World).heap[gb469]? = some (.cells #[.string ((rd_T55 l0 x16_1).f0), .string ((rd_T55 l0 x16_1).f1), .slice A468_2 ((rd_T55 l0 x16_1).f2).length c468_2, .string ((rd_T55 l0 x16_1).f3), .slice (some ad470) ((rd_T55 l0 x16_1).f4).length c468_4] 55 (0, 0)) from by (with_reducible repeat (first | refine blk_drewN ?_ _ | refine blk_drew ?_ | refine blk_alloc ?_ _)); refine blk_far ?_ NB469_472.out _; (with_reducible repeat (first | refine blk_drewN ?_ _ | refine blk_drew ?_ | refine blk_alloc ?_ _)); refine blk_far ?_ NB469_472.out _; (with_reducible repeat (first | refine blk_drewN ?_ _ | refine blk_drew ?_ | refine blk_alloc ?_ _)); exact BK469.out)); replace BK471 := Aside0.mk (far_blk (mp_ HM_3) hg (show (_ : World).heap[gb471]? = some (.cells #[.string ((rd_T57 ((rd_T55 l0 x16_1).f4) x23_2).f0), .int .i64 ((rd_T57 ((rd_T55 l0 x16_1).f4) x23_2).f1), .string ((rd_T57 ((rd_T55 l0 x16_1).f4) x23_2).f2), .bool ((rd_T57 ((rd_T55 l0 x16_1).f4) x23_2).f3)] 57 (0, 0)) from by (with_reducible repeat (first | refine blk_drewN ?_ _ | refine blk_drew ?_ | refine blk_alloc ?_ _)); refine blk_far ?_ NB471_472.out _; (with_reducible repeat (first | refine blk_drewN ?_ _ | refine blk_drew ?_ | refine blk_alloc ?_ _)); refine blk_far ?_ NB471_472.out _; (with_reducible repeat (first | refine blk_drewN ?_ _ | refine blk_drew ?_ | refine blk_alloc ?_ _)); exact BK471.out)); replace BK472 := Aside0.mk (far_blk (mp_ HM_3) hg (show (_ : World).heap[gb472]? = some (.cells #[.string ((rd_T57 ((rd_T55 l0 x16_1).f4) x23_2).f2), .bool ((rd_T57 ((rd_T55 l0 x16_1).f4) x23_2).f3)] 61 (0, 0)) from by (with_reducible repeat (first | refine blk_drewN ?_ _ | refine blk_drew ?_ | refine blk_alloc ?_ _)); refine blk_put (cs := #[.string ((rd_T57 ((rd_T55 l0 x16_1).f4) x23_2).f2), .bool false]) ?_ 1 _ rfl; (with_reducible repeat (first | refine blk_drewN ?_ _ | refine blk_drew ?_ | refine blk_alloc ?_ _)); refine blk_put (cs := #[.string (⟨#[]⟩ : ByteArray), .bool false]) ?_ 0 _ rfl; (with_reducible repeat (first | refine blk_drewN ?_ _ | refine blk_drew ?_ | refine blk_alloc ?_ _)); exact BK472.out)); replace HM_3 := Aside0.mk (hmp); replace HB := Aside0.mk (far_below GMgm467.out (below_size (by repeat (first | (with_reducible first | exact HB.out | apply below_alloc | apply pw_below_drewN | apply below_drew1 | refine below_set ?_ GE469.out | refine below_set ?_ GE471.out | refine below_set ?_ GE472.out) | exact HB.out))) hg (by repeat (first | (with_reducible first | exact HB.out | apply below_alloc | apply pw_below_drewN | apply below_drew1 | refine below_set ?_ GE469.out | refine below_set ?_ GE471.out | refine below_set ?_ GE472.out) | exact HB.out))); clear hmp hg))
     go_roundg k2
     case measure => have := HK1.out; have := HK2.out; omega
     case rel => exact ⟨(y474), (x4_2), (wrap64 (x23_2 + 1)), (by first | rfl | (simp; done) | (simp [*]; done)), (by first | rfl | (simp; done) | (simp [*]; done)), H', ⟨by have := HK1.out; have := HK2.out; omega⟩, ⟨mp_ HM_3⟩, ⟨bk_ BK469⟩, ⟨by repeat (first | (with_reducible first | exact HB.out | apply below_alloc | apply pw_below_drewN | apply below_drew1 | refine below_set ?_ GE469.out | refine below_set ?_ GE471.out | refine below_set ?_ GE472.out) | exact HB.out)⟩⟩}
     {
     rw [if_neg c29] at H
     exact absurd H (by simp)}}}
     {
     rw [if_neg c16] at H
     exact absurd H (by simp)}}
     {
     rw [if_neg c15] at H
     have c15b0 : (((rd_T57 ((rd_T55 l0 x16_1).f4) x23_2).f1) == 2) = false := beq_eq_false_iff_ne.mpr c15
     have c15b1 : (((rd_T57 ((rd_T55 l0 x16_1).f4) x23_2).f1) != 2) = true := bne_iff_ne.mpr c15
     have H' := Aside0.mk H
     clear H
     have p470 : 0 ≤ (x23_2 : Int) := dA_
     have q470 : x23_2 < (((rd_T55 l0 x16_1).f4).length : Int) := dA_
     obtain ⟨ad470, e470, hx470_0, hx470_1, hx470_2, hx470_3⟩ := at_T57 HR468_4.out x23_2 p470 q470
     cases e470
     replace hx470_0 := hX_ HB hx470_0
     replace hx470_1 := hX_ HB hx470_1
     replace hx470_2 := hX_ HB hx470_2
     replace hx470_3 := hX_ HB hx470_3
     replace p470 := eq_true p470
     replace q470 := eq_true q470
     go_wp2_with (first | ((with_reducible refine gate_dst (N := 8) rfl ?_); refine bE_ 8 #[.string (⟨#[]⟩ : ByteArray), .int .i64 0, .string (⟨#[]⟩ : ByteArray), .bool false] 57 ?_; intro gb471 hg w39 hbox hb; replace HM_3 := Aside0.mk (MapAt.below (mp_ HM_3) hb); have BK471 := Aside0.mk (hbox); have GW471 := Aside0.mk (ge_ hg (bw1_ HB GE469)); have GE471 := Aside0.mk (ge_ hg (bw1_ HB GE469)); replace HB := Aside0.mk (below_step (bw1_ HB GE469) hb); have NB469_471 := Aside0.mk ((by rw [hg]; exact Nat.ne_of_lt (blk_lt (bk_ BK469)) : gb469 ≠ gb471)); have NB471_469 := Aside0.mk ((by rw [hg]; exact Nat.ne_of_gt (blk_lt (bk_ BK469)) : gb471 ≠ gb469)); replace BK469 := Aside0.mk (blk_below (bk_ BK469) hb); clear hb hbox hg; have hnb40 := NB471_469.out; have hnc40 := NB469_471.out; have hcz41_0 := cz_ BK471 0 (.string (⟨#[]⟩ : ByteArray)); have hcz41_1 := cz_ BK471 1 (.int .i64 0); have hcz41_2 := cz_ BK471 2 (.string (⟨#[]⟩ : ByteArray)); have hcz41_3 := cz_ BK471 3 (.bool false); have hfz41_0 := blk_frozen BK471.out 0; have hfz41_1 := blk_frozen BK471.out 1; have hfz41_2 := blk_frozen BK471.out 2; have hfz41_3 := blk_frozen BK471.out 3))
     go_roundg k2
     case measure => have := HK1.out; have := HK2.out; omega
     case rel => exact ⟨(x3_2), (x4_2), (wrap64 (x23_2 + 1)), (by first | rfl | (simp; done) | (simp [*]; done)), (by first | rfl | (simp; done) | (simp [*]; done)), H', ⟨by have := HK1.out; have := HK2.out; omega⟩, ⟨mp_ HM_3⟩, ⟨by (with_reducible repeat (first | refine blk_drewN ?_ _ | refine blk_drew ?_ | refine blk_alloc ?_ _)); refine blk_far ?_ NB469_471.out _; (with_reducible repeat (first | refine blk_drewN ?_ _ | refine blk_drew ?_ | refine blk_alloc ?_ _)); refine blk_far ?_ NB469_471.out _; (with_reducible repeat (first | refine blk_drewN ?_ _ | refine blk_drew ?_ | refine blk_alloc ?_ _)); refine blk_far ?_ NB469_471.out _; (with_reducible repeat (first | refine blk_drewN ?_ _ | refine blk_drew ?_ | refine blk_alloc ?_ _)); refine blk_far ?_ NB469_471.out _; (with_reducible repeat (first | refine blk_drewN ?_ _ | refine blk_drew ?_ | refine blk_alloc ?_ _)); exact BK469.out⟩, ⟨bw2_ HB GE469 GE471⟩⟩}}
     {
     rw [if_neg c14] at H
     exact absurd H (by simp)}}
     {
     rw [if_neg c13] at H
     exact absurd H (by simp)}}
     {
     rw [if_neg c12] at H
     have c12b0 := decide_eq_false c12
     (try (have c12b0' := c12b0; simp only [hl468_4] at c12b0'))
     clear c12
     have H' := Aside0.mk H
     clear H
     go_wp2
     go_roundg k2
     case measure => have := HK1.out; have := HK2.out; omega
     case rel => exact ⟨(x3_2), (x4_2), (wrap64 (x16_1 + 1)), (by first | rfl | (simp; done) | (simp [*]; done)), (by first | rfl | (simp; done) | (simp [*]; done)), H', ⟨by have := HK1.out; have := HK2.out; omega⟩, ⟨mp_ HM_3⟩, ⟨bw1_ HB GE469⟩⟩}}
   {
   rw [if_neg c9] at H
   exact absurd H (by simp)}}
   {
   rw [if_neg c8] at H
   exact absurd H (by simp)}}
   {
   rw [if_neg c7] at H
   have c7b0 := decide_eq_false c7
   (try (have c7b0' := c7b0; simp only [hl468_4] at c7b0'))
   clear c7
   obtain rfl := Option.some.inj H
   go_wp2
   go_ret
   exact ⟨eR_, bw_ HB⟩}}
 {
 replace c3 := Bool.eq_false_iff.mpr c3
 subst c3
 rw [if_neg (show ¬ (false = true) by decide)] at H
 obtain rfl := Option.some.inj H
 go_enter Tryz.func11, Tryz.ntmps11
 go_wp2_with (first | ((with_reducible refine gate_callee (f := 35) rfl ?_); refine gL_ (some 11) Tryz.func35 #[.slice A0 l0.length c0] ?_; (with_reducible refine (impl_StoreOk.calls k _ _ l0 false _ ?side1 ?side2 ?side3 A2.out).mono ?_); (case side1 => refine EnvW.below HE.out ?_; repeat (first | (with_reducible first | exact HB.out | apply below_alloc | apply pw_below_drewN | apply below_drew1) | exact HB.out)); (case side2 => repeat (first | exact HR0.out | (with_reducible refine Kd.C_alloc ?_ _) | (with_reducible refine Kd.C_drewN ?_ _) | (with_reducible refine Kd.C_drew ?_))); (case side3 => exact HC0.out); rintro e w42 ⟨rfl, hb⟩; refine ⟨_, rfl, ?_⟩; replace HB := Aside0.mk (below_step (bw_ HB) hb); (try clear hb); (try clear hb2); (try clear hk); (try clear hi)))
 go_ret
 exact ⟨eR_, bw_ HB⟩
}
def laws_eqStringS.l0 : Nat → List ByteArray → List ByteArray → Int → Option (Bool)
 | 0, _, _, _ => none
 | k + 1, x0, x1, x5 => if x5 < (x0.length : Int) then (if 0 ≤ x5 then (if x5 < (x1.length : Int) then (if (rdOf ByteArray.empty x0 x5).toList = (rdOf ByteArray.empty x1 x5).toList then (laws_eqStringS.l0 k x0 x1 (wrap64 (x5 + 1))) else (some false)) else (none)) else (none)) else (some true)
def laws_eqStringS.f (k : Nat) (l0 : List ByteArray) (l1 : List ByteArray) : Option (Bool) := if (l0.length : Int) = (l1.length : Int) then (laws_eqStringS.l0 k l0 l1 0) else (some false)
set_option maxHeartbeats 8000000 in
set_option maxRecDepth 100000 in
theorem laws_eqStringS.calls (k : Nat) (A0 : Option Addr) (c0 : Nat) (l0 : List ByteArray) (A1 : Option Addr) (c1 : Nat) (l1 : List ByteArray) (r : Bool) (w : World) (hr0 : Kd.C Kd.string w A0 l0.length l0) (hc0 : l0.length ≤ c0) (hr1 : Kd.C Kd.string w A1 l1.length l1) (hc1 : l1.length ≤ c1) (h : laws_eqStringS.f k l0 l1 = some r) :
 Calls Tryz.prog 15 #[.slice A0 l0.length c0, .slice A1 l1.length c1] w fun e w' => e = .returned (.bool r) ∧ Drawn0 w w' := by
 have HR0 := Aside0.mk hr0
 have HC0 := Aside0.mk hc0
 clear hr0 hc0
 have HR1 := Aside0.mk hr1
 have HC1 := Aside0.mk hc1
 clear hr1 hc1
 have H : (if (l0.length : Int) = (l1.length : Int) then (laws_eqStringS.l0 k l0 l1 0) else (some false)) = some r := h
 clear h
 by_cases c3 : (l0.length : Int) = (l1.length : Int)
 {
 rw [if_pos c3] at H
 have c3b0 : ((l0.length : Int) == (l1.length : Int)) = true := beq_iff_eq.mpr c3
 have c3b1 : ((l0.length : Int) != (l1.length : Int)) = false := bne_eq_false_iff_eq.mpr c3
 have c3b2 : (l0.length == l1.length) = true := by first | simpa using c3 | (simp at c3 ⊢; omega)
 clear c3
 have H' := Aside0.mk H
 clear H
 go_enter Tryz.func15, Tryz.ntmps15
 go_wp2
 repeat (go_quiet (fail); try go_wp2)
 go_loopg [5] k (fun kq v5 w' => ∃ (x5_1 : Int), v5 = .int .i64 x5_1 ∧ Aside0 (laws_eqStringS.l0 kq l0 l1 x5_1 = some r) ∧ Aside0 (kq ≤ k) ∧ Drawn0 w w')
 case atStart => exact ⟨(0), (by first | rfl | (simp; done) | (simp [*]; done)), H', ⟨Nat.le_refl _⟩, dR_⟩
 case round =>
  clear H'
  try clear c1
  try clear p2
  try clear c3
  try clear c3b0
  try clear c3b1
  try clear c3b2
  obtain ⟨x5_1, rfl, HA, HK1, ⟨m1, rfl⟩⟩ := hrel
  cases gk with
  | zero => exact absurd HA.out (by simp [laws_eqStringS.l0])
  | succ k1 =>
   have H := HA.out
   clear HA
   simp only [laws_eqStringS.l0] at H
   by_cases c4 : x5_1 < (l0.length : Int)
   {
   rw [if_pos c4] at H
   have c4b0 := decide_eq_true c4
   clear c4
   by_cases c5 : 0 ≤ x5_1
   {
   rw [if_pos c5] at H
   have c5b0 := decide_eq_true c5
   clear c5
   by_cases c6 : x5_1 < (l1.length : Int)
   {
   rw [if_pos c6] at H
   have c6b0 := decide_eq_true c6
   clear c6
   by_cases c7 : (rdOf ByteArray.empty l0 x5_1).toList = (rdOf ByteArray.empty l1 x5_1).toList
   {
   rw [if_pos c7] at H
   have c7b0 : ((rdOf ByteArray.empty l0 x5_1).toList == (rdOf ByteArray.empty l1 x5_1).toList) = true := beq_iff_eq.mpr c7
   have c7b1 : ((rdOf ByteArray.empty l0 x5_1).toList != (rdOf ByteArray.empty l1 x5_1).toList) = false := bne_eq_false_iff_eq.mpr c7
   clear c7
   have H' := Aside0.mk H
   clear H
   have p475 : 0 ≤ (x5_1 : Int) := dA_
   have q475 : x5_1 < (l0.length : Int) := dA_
   obtain ⟨ad475, e475, hx475_0⟩ := Kd.at_string HR0.out x5_1 p475 q475
   cases e475
   replace p475 := eq_true p475
   replace q475 := eq_true q475
   have p476 : 0 ≤ (x5_1 : Int) := dA_
   have q476 : x5_1 < (l1.length : Int) := dA_
   obtain ⟨ad476, e476, hx476_0⟩ := Kd.at_string HR1.out x5_1 p476 q476
   cases e476
   replace p476 := eq_true p476
   replace q476 := eq_true q476
   go_wp2
   repeat (go_quiet (fail); try go_wp2)
   go_roundg k1
   case measure => have := HK1.out; omega
   case rel => exact ⟨(wrap64 (x5_1 + 1)), (by first | rfl | (simp; done) | (simp [*]; done)), H', ⟨by have := HK1.out; omega⟩, dR_⟩}
   {
   rw [if_neg c7] at H
   have c7b0 : ((rdOf ByteArray.empty l0 x5_1).toList == (rdOf ByteArray.empty l1 x5_1).toList) = false := beq_eq_false_iff_ne.mpr c7
   have c7b1 : ((rdOf ByteArray.empty l0 x5_1).toList != (rdOf ByteArray.empty l1 x5_1).toList) = true := bne_iff_ne.mpr c7
   obtain rfl := Option.some.inj H
   have p475 : 0 ≤ (x5_1 : Int) := dA_
   have q475 : x5_1 < (l0.length : Int) := dA_
   obtain ⟨ad475, e475, hx475_0⟩ := Kd.at_string HR0.out x5_1 p475 q475
   cases e475
   replace p475 := eq_true p475
   replace q475 := eq_true q475
   have p476 : 0 ≤ (x5_1 : Int) := dA_
   have q476 : x5_1 < (l1.length : Int) := dA_
   obtain ⟨ad476, e476, hx476_0⟩ := Kd.at_string HR1.out x5_1 p476 q476
   cases e476
   replace p476 := eq_true p476
   replace q476 := eq_true q476
   go_wp2
   repeat (go_quiet (fail); try go_wp2)
   go_ret
   exact ⟨eS_, dR_⟩}}
   {
   rw [if_neg c6] at H
   exact absurd H (by simp)}}
   {
   rw [if_neg c5] at H
   exact absurd H (by simp)}}
   {
   rw [if_neg c4] at H
   have c4b0 := decide_eq_false c4
   clear c4
   obtain rfl := Option.some.inj H
   go_wp2
   repeat (go_quiet (fail); try go_wp2)
   go_ret
   exact ⟨eS_, dR_⟩}}
 {
 rw [if_neg c3] at H
 have c3b0 : ((l0.length : Int) == (l1.length : Int)) = false := beq_eq_false_iff_ne.mpr c3
 have c3b1 : ((l0.length : Int) != (l1.length : Int)) = true := bne_iff_ne.mpr c3
 have c3b2 : (l0.length == l1.length) = false := by first | simpa using c3 | (simp at c3 ⊢; omega)
 obtain rfl := Option.some.inj H
 go_enter Tryz.func15, Tryz.ntmps15
 go_wp2
 repeat (go_quiet (fail); try go_wp2)
 go_ret
 exact ⟨eS_, dR_⟩
}
end Go.Proofs.YtikjbfjnbhaljaaGreatDoor.P
end
