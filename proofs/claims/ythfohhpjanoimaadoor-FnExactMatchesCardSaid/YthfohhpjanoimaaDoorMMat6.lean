/- Texts of Mat, put together by program. -/
import Derived.Test.YthfohhpjanoimaaDoorMMat3
import Derived.Test.YthfohhpjanoimaaDoorMMat5
import Derived.Test.YthfohhpjanoimaaDoorMMat4

section
namespace Go.Proofs.YthfohhpjanoimaaDoor.P
open Go.RowKit Go.Proofs.YthfohhpjanoimaaDoorW.PrintWords Go.Proofs.YthfohhpjanoimaaDoorW.PrintLast Go.Proofs.YthfohhpjanoimaaDoorW.PrintMore Go.Proofs.YthfohhpjanoimaaDoorM
attribute [local go_sem] max2_int min2_int max_two min_two max_three min_three max_four min_four   -- for this text's walks alone
set_option linter.unusedVariables false
set_option linter.unusedSimpArgs false
attribute [local go_sem high] eqA67
def impl_meets.j0 : Nat → List (S67) → List (S67) → Bool → ByteArray → ByteArray → Option (Bool)
  | 0, _, _, _, _, _ => none
  | k + 1, x6, x8, x63, x330000, x330001 => if x63 = true then (some false) else (if x330000.toList = ([94] : List UInt8) then (some true) else (if (x6.length : Int) < 2 then (if (x8.length : Int) < 2 then (some true) else (if (x6.length : Int) ≥ 2 then (if (x8.length : Int) ≥ 2 then (if 1 < (x6.length : Int) then (if 1 < (x8.length : Int) then (some (((rd_T67 x6 1).f0) == ((rd_T67 x8 1).f0) && ((((rd_T67 x6 1).f1).toList) == (((rd_T67 x8 1).f1).toList)))) else (none)) else (none)) else (some false)) else (some false))) else (if (x6.length : Int) ≥ 2 then (if (x8.length : Int) ≥ 2 then (if 1 < (x6.length : Int) then (if 1 < (x8.length : Int) then (some (((rd_T67 x6 1).f0) == ((rd_T67 x8 1).f0) && ((((rd_T67 x6 1).f1).toList) == (((rd_T67 x8 1).f1).toList)))) else (none)) else (none)) else (some false)) else (some false))))
def impl_meets.f (k : Nat) (a0_0 : ByteArray) (a0_1 : ByteArray) (a1 : ByteArray) : Option (Bool) := (impl_CompareVersions.f k a1 a0_1).bind fun t330 => (if a0_0.toList = ([42] : List UInt8) then (some true) else (if a0_0.toList = ([61] : List UInt8) then (some (t330 == 0)) else (if a0_0.toList = ([33, 61] : List UInt8) then (some (t330 != 0)) else (if a0_0.toList = ([62] : List UInt8) then (some (decide (t330 > 0))) else (if a0_0.toList = ([62, 61] : List UInt8) then (some (decide (t330 ≥ 0))) else (if a0_0.toList = ([60] : List UInt8) then (some (decide (t330 < 0))) else (if a0_0.toList = ([60, 61] : List UInt8) then (some (decide (t330 ≤ 0))) else ((impl_parts.f k a1).bind fun bt331 => ((impl_parts.f k a0_1).bind fun bt335 => (if t330 < 0 then (impl_meets.j0 k bt331.1 bt335.1 true a0_0 a0_1) else (if 0 < (bt331.1.length : Int) then (if 0 < (bt335.1.length : Int) then (impl_meets.j0 k bt331.1 bt335.1 (!(((rd_T67 bt331.1 0).f0) == ((rd_T67 bt335.1 0).f0)) || (!((((rd_T67 bt331.1 0).f1).toList) == (((rd_T67 bt335.1 0).f1).toList)))) a0_0 a0_1) else (none)) else (none))))))))))))
set_option maxHeartbeats 8000000 in
set_option maxRecDepth 100000 in
theorem impl_meets.calls (k : Nat) (a0_0 : ByteArray) (a0_1 : ByteArray) (a1 : ByteArray) (r : Bool) (w : World) (h : impl_meets.f k a0_0 a0_1 a1 = some r) :
    Calls Tryd.prog 30 #[.agg #[.string a0_0, .string a0_1], .string a1] w fun e w' => e = .returned (.bool r) ∧ Below w.heap.size w w' := by
  have hu38 := Tryd.underlying38
  have hu67 := Tryd.underlying67
  have HB := Aside0.mk (Below.refl w.heap.size w)
  have H : ((impl_CompareVersions.f k a1 a0_1).bind fun t330 => (if a0_0.toList = ([42] : List UInt8) then (some true) else (if a0_0.toList = ([61] : List UInt8) then (some (t330 == 0)) else (if a0_0.toList = ([33, 61] : List UInt8) then (some (t330 != 0)) else (if a0_0.toList = ([62] : List UInt8) then (some (decide (t330 > 0))) else (if a0_0.toList = ([62, 61] : List UInt8) then (some (decide (t330 ≥ 0))) else (if a0_0.toList = ([60] : List UInt8) then (some (decide (t330 < 0))) else (if a0_0.toList = ([60, 61] : List UInt8) then (some (decide (t330 ≤ 0))) else ((impl_parts.f k a1).bind fun bt331 => ((impl_parts.f k a0_1).bind fun bt335 => (if t330 < 0 then (impl_meets.j0 k bt331.1 bt335.1 true a0_0 a0_1) else (if 0 < (bt331.1.length : Int) then (if 0 < (bt335.1.length : Int) then (impl_meets.j0 k bt331.1 bt335.1 (!(((rd_T67 bt331.1 0).f0) == ((rd_T67 bt335.1 0).f0)) || (!((((rd_T67 bt331.1 0).f1).toList) == (((rd_T67 bt335.1 0).f1).toList)))) a0_0 a0_1) else (none)) else (none))))))))))))) = some r := h
  clear h
  replace H := Option.bind_eq_some_iff.mp H
  obtain ⟨t330, A30, H⟩ := H
  replace H : (if a0_0.toList = ([42] : List UInt8) then (some true) else (if a0_0.toList = ([61] : List UInt8) then (some (t330 == 0)) else (if a0_0.toList = ([33, 61] : List UInt8) then (some (t330 != 0)) else (if a0_0.toList = ([62] : List UInt8) then (some (decide (t330 > 0))) else (if a0_0.toList = ([62, 61] : List UInt8) then (some (decide (t330 ≥ 0))) else (if a0_0.toList = ([60] : List UInt8) then (some (decide (t330 < 0))) else (if a0_0.toList = ([60, 61] : List UInt8) then (some (decide (t330 ≤ 0))) else ((impl_parts.f k a1).bind fun bt331 => ((impl_parts.f k a0_1).bind fun bt335 => (if t330 < 0 then (impl_meets.j0 k bt331.1 bt335.1 true a0_0 a0_1) else (if 0 < (bt331.1.length : Int) then (if 0 < (bt335.1.length : Int) then (impl_meets.j0 k bt331.1 bt335.1 (!(((rd_T67 bt331.1 0).f0) == ((rd_T67 bt335.1 0).f0)) || (!((((rd_T67 bt331.1 0).f1).toList) == (((rd_T67 bt335.1 0).f1).toList)))) a0_0 a0_1) else (none)) else (none)))))))))))) = some r := H
  have A3 := Aside0.mk A30
  clear A30
  by_cases c4 : a0_0.toList = ([42] : List UInt8)
  · rw [if_pos c4] at H
    have c4b0 : (a0_0.toList == ([42] : List UInt8)) = true := beq_iff_eq.mpr c4
    have c4b1 : (a0_0.toList != ([42] : List UInt8)) = false := bne_eq_false_iff_eq.mpr c4
    clear c4
    obtain rfl := Option.some.inj H
    go_enter Tryd.func30, Tryd.ntmps30
    go_wp2_with (first | ((with_reducible refine gate_dst (N := 2) rfl ?_); (try (refine gate_guard (by rfl) ?_; dsimp only)); refine box_event ?hg (N := 2) ?hd (cs := #[.string a0_0, .string a0_1]) (t := 38) ?hr ?_; (case hd => rfl); (case hg => rfl); (case hr => first | (go_simp; done) | (go_simp; rfl)); intro gb329 hg w5 hbox hb; have n0_ := Aside0.mk (below_step (by repeat (first | (with_reducible first | exact HB.out | apply below_alloc | apply pw_below_drewN | apply below_drew1) | exact HB.out)) hb); have n1_ := Aside0.mk (hbox); have n2_ := Aside0.mk ((by rw [hg]; exact (below_size (by repeat (first | (with_reducible first | exact HB.out | apply below_alloc | apply pw_below_drewN | apply below_drew1) | exact HB.out))) : w.heap.size ≤ gb329)); have n3_ := Aside0.mk ((by rw [hg]; exact (below_size (by repeat (first | (with_reducible first | exact HB.out | apply below_alloc | apply pw_below_drewN | apply below_drew1) | exact HB.out))) : w.heap.size ≤ gb329)); clear HB; have HB := n0_; have BK329 := n1_; have GW329 := n2_; have GE329 := n3_; clear n0_ n1_ n2_ n3_; clear hb hbox hg; have hcz6_0 : w5.cell? ⟨gb329, 0, none⟩ = some (.string a0_0) := (blk_cell BK329.out 0).trans rfl; have hcz6_1 : w5.cell? ⟨gb329, 1, none⟩ = some (.string a0_1) := (blk_cell BK329.out 1).trans rfl; have hfz6_0 := blk_frozen BK329.out 0; have hfz6_1 := blk_frozen BK329.out 1) | (go_at_call 45; (with_reducible refine (impl_CompareVersions.calls k a1 a0_1 t330 _ A3.out).mono ?_); rintro e w7 ⟨rfl, hb⟩; have n0_ := Aside0.mk (blk_below (g := gb329) (o := .cells #[.string a0_0, .string a0_1] 38 (0, 0)) (by (with_reducible repeat (first | refine blk_drewN ?_ _ | refine blk_drew ?_ | refine blk_alloc ?_ _)); exact BK329.out) hb); have n1_ := Aside0.mk (below_step (by repeat (first | (with_reducible first | exact HB.out | apply below_alloc | apply pw_below_drewN | apply below_drew1 | refine below_set ?_ GE329.out) | exact HB.out)) hb); clear BK329; clear HB; have BK329 := n0_; have HB := n1_; clear n0_ n1_; (try clear hb); (try clear hb2); (try clear hk); (try clear hi); have hcz8_0 : w7.cell? ⟨gb329, 0, none⟩ = some (.string a0_0) := (blk_cell BK329.out 0).trans rfl; have hcz8_1 : w7.cell? ⟨gb329, 1, none⟩ = some (.string a0_1) := (blk_cell BK329.out 1).trans rfl; have hfz8_0 := blk_frozen BK329.out 0; have hfz8_1 := blk_frozen BK329.out 1))
    repeat (go_quiet (first | ((with_reducible refine gate_dst (N := 2) rfl ?_); (try (refine gate_guard (by rfl) ?_; dsimp only)); refine box_event ?hg (N := 2) ?hd (cs := #[.string a0_0, .string a0_1]) (t := 38) ?hr ?_; (case hd => rfl); (case hg => rfl); (case hr => first | (go_simp; done) | (go_simp; rfl)); intro gb329 hg w5 hbox hb; have n0_ := Aside0.mk (below_step (by repeat (first | (with_reducible first | exact HB.out | apply below_alloc | apply pw_below_drewN | apply below_drew1) | exact HB.out)) hb); have n1_ := Aside0.mk (hbox); have n2_ := Aside0.mk ((by rw [hg]; exact (below_size (by repeat (first | (with_reducible first | exact HB.out | apply below_alloc | apply pw_below_drewN | apply below_drew1) | exact HB.out))) : w.heap.size ≤ gb329)); have n3_ := Aside0.mk ((by rw [hg]; exact (below_size (by repeat (first | (with_reducible first | exact HB.out | apply below_alloc | apply pw_below_drewN | apply below_drew1) | exact HB.out))) : w.heap.size ≤ gb329)); clear HB; have HB := n0_; have BK329 := n1_; have GW329 := n2_; have GE329 := n3_; clear n0_ n1_ n2_ n3_; clear hb hbox hg; have hcz6_0 : w5.cell? ⟨gb329, 0, none⟩ = some (.string a0_0) := (blk_cell BK329.out 0).trans rfl; have hcz6_1 : w5.cell? ⟨gb329, 1, none⟩ = some (.string a0_1) := (blk_cell BK329.out 1).trans rfl; have hfz6_0 := blk_frozen BK329.out 0; have hfz6_1 := blk_frozen BK329.out 1) | (go_at_call 45; (with_reducible refine (impl_CompareVersions.calls k a1 a0_1 t330 _ A3.out).mono ?_); rintro e w7 ⟨rfl, hb⟩; have n0_ := Aside0.mk (blk_below (g := gb329) (o := .cells #[.string a0_0, .string a0_1] 38 (0, 0)) (by (with_reducible repeat (first | refine blk_drewN ?_ _ | refine blk_drew ?_ | refine blk_alloc ?_ _)); exact BK329.out) hb); have n1_ := Aside0.mk (below_step (by repeat (first | (with_reducible first | exact HB.out | apply below_alloc | apply pw_below_drewN | apply below_drew1 | refine below_set ?_ GE329.out) | exact HB.out)) hb); clear BK329; clear HB; have BK329 := n0_; have HB := n1_; clear n0_ n1_; (try clear hb); (try clear hb2); (try clear hk); (try clear hi); have hcz8_0 : w7.cell? ⟨gb329, 0, none⟩ = some (.string a0_0) := (blk_cell BK329.out 0).trans rfl; have hcz8_1 : w7.cell? ⟨gb329, 1, none⟩ = some (.string a0_1) := (blk_cell BK329.out 1).trans rfl; have hfz8_0 := blk_frozen BK329.out 0; have hfz8_1 := blk_frozen BK329.out 1)); try go_wp2_with (first | ((with_reducible refine gate_dst (N := 2) rfl ?_); (try (refine gate_guard (by rfl) ?_; dsimp only)); refine box_event ?hg (N := 2) ?hd (cs := #[.string a0_0, .string a0_1]) (t := 38) ?hr ?_; (case hd => rfl); (case hg => rfl); (case hr => first | (go_simp; done) | (go_simp; rfl)); intro gb329 hg w5 hbox hb; have n0_ := Aside0.mk (below_step (by repeat (first | (with_reducible first | exact HB.out | apply below_alloc | apply pw_below_drewN | apply below_drew1) | exact HB.out)) hb); have n1_ := Aside0.mk (hbox); have n2_ := Aside0.mk ((by rw [hg]; exact (below_size (by repeat (first | (with_reducible first | exact HB.out | apply below_alloc | apply pw_below_drewN | apply below_drew1) | exact HB.out))) : w.heap.size ≤ gb329)); have n3_ := Aside0.mk ((by rw [hg]; exact (below_size (by repeat (first | (with_reducible first | exact HB.out | apply below_alloc | apply pw_below_drewN | apply below_drew1) | exact HB.out))) : w.heap.size ≤ gb329)); clear HB; have HB := n0_; have BK329 := n1_; have GW329 := n2_; have GE329 := n3_; clear n0_ n1_ n2_ n3_; clear hb hbox hg; have hcz6_0 : w5.cell? ⟨gb329, 0, none⟩ = some (.string a0_0) := (blk_cell BK329.out 0).trans rfl; have hcz6_1 : w5.cell? ⟨gb329, 1, none⟩ = some (.string a0_1) := (blk_cell BK329.out 1).trans rfl; have hfz6_0 := blk_frozen BK329.out 0; have hfz6_1 := blk_frozen BK329.out 1) | (go_at_call 45; (with_reducible refine (impl_CompareVersions.calls k a1 a0_1 t330 _ A3.out).mono ?_); rintro e w7 ⟨rfl, hb⟩; have n0_ := Aside0.mk (blk_below (g := gb329) (o := .cells #[.string a0_0, .string a0_1] 38 (0, 0)) (by (with_reducible repeat (first | refine blk_drewN ?_ _ | refine blk_drew ?_ | refine blk_alloc ?_ _)); exact BK329.out) hb); have n1_ := Aside0.mk (below_step (by repeat (first | (with_reducible first | exact HB.out | apply below_alloc | apply pw_below_drewN | apply below_drew1 | refine below_set ?_ GE329.out) | exact HB.out)) hb); clear BK329; clear HB; have BK329 := n0_; have HB := n1_; clear n0_ n1_; (try clear hb); (try clear hb2); (try clear hk); (try clear hi); have hcz8_0 : w7.cell? ⟨gb329, 0, none⟩ = some (.string a0_0) := (blk_cell BK329.out 0).trans rfl; have hcz8_1 : w7.cell? ⟨gb329, 1, none⟩ = some (.string a0_1) := (blk_cell BK329.out 1).trans rfl; have hfz8_0 := blk_frozen BK329.out 0; have hfz8_1 := blk_frozen BK329.out 1)))
    go_ret
    exact ⟨by first | rfl | (simp [errW_none, errW_some] <;> rfl) | (simp [*, errW_none, errW_some] <;> rfl), by repeat (first | (with_reducible first | exact HB.out | apply below_alloc | apply pw_below_drewN | apply below_drew1 | refine below_set ?_ GE329.out) | exact HB.out)⟩
  · rw [if_neg c4] at H
    have c4b0 : (a0_0.toList == ([42] : List UInt8)) = false := beq_eq_false_iff_ne.mpr c4
    have c4b1 : (a0_0.toList != ([42] : List UInt8)) = true := bne_iff_ne.mpr c4
    by_cases c9 : a0_0.toList = ([61] : List UInt8)
    · rw [if_pos c9] at H
      have c9b0 : (a0_0.toList == ([61] : List UInt8)) = true := beq_iff_eq.mpr c9
      have c9b1 : (a0_0.toList != ([61] : List UInt8)) = false := bne_eq_false_iff_eq.mpr c9
      clear c9
      obtain rfl := Option.some.inj H
      go_enter Tryd.func30, Tryd.ntmps30
      go_wp2_with (first | ((with_reducible refine gate_dst (N := 2) rfl ?_); (try (refine gate_guard (by rfl) ?_; dsimp only)); refine box_event ?hg (N := 2) ?hd (cs := #[.string a0_0, .string a0_1]) (t := 38) ?hr ?_; (case hd => rfl); (case hg => rfl); (case hr => first | (go_simp; done) | (go_simp; rfl)); intro gb329 hg w10 hbox hb; have n0_ := Aside0.mk (below_step (by repeat (first | (with_reducible first | exact HB.out | apply below_alloc | apply pw_below_drewN | apply below_drew1) | exact HB.out)) hb); have n1_ := Aside0.mk (hbox); have n2_ := Aside0.mk ((by rw [hg]; exact (below_size (by repeat (first | (with_reducible first | exact HB.out | apply below_alloc | apply pw_below_drewN | apply below_drew1) | exact HB.out))) : w.heap.size ≤ gb329)); have n3_ := Aside0.mk ((by rw [hg]; exact (below_size (by repeat (first | (with_reducible first | exact HB.out | apply below_alloc | apply pw_below_drewN | apply below_drew1) | exact HB.out))) : w.heap.size ≤ gb329)); clear HB; have HB := n0_; have BK329 := n1_; have GW329 := n2_; have GE329 := n3_; clear n0_ n1_ n2_ n3_; clear hb hbox hg; have hcz11_0 : w10.cell? ⟨gb329, 0, none⟩ = some (.string a0_0) := (blk_cell BK329.out 0).trans rfl; have hcz11_1 : w10.cell? ⟨gb329, 1, none⟩ = some (.string a0_1) := (blk_cell BK329.out 1).trans rfl; have hfz11_0 := blk_frozen BK329.out 0; have hfz11_1 := blk_frozen BK329.out 1) | (go_at_call 45; (with_reducible refine (impl_CompareVersions.calls k a1 a0_1 t330 _ A3.out).mono ?_); rintro e w12 ⟨rfl, hb⟩; have n0_ := Aside0.mk (blk_below (g := gb329) (o := .cells #[.string a0_0, .string a0_1] 38 (0, 0)) (by (with_reducible repeat (first | refine blk_drewN ?_ _ | refine blk_drew ?_ | refine blk_alloc ?_ _)); exact BK329.out) hb); have n1_ := Aside0.mk (below_step (by repeat (first | (with_reducible first | exact HB.out | apply below_alloc | apply pw_below_drewN | apply below_drew1 | refine below_set ?_ GE329.out) | exact HB.out)) hb); clear BK329; clear HB; have BK329 := n0_; have HB := n1_; clear n0_ n1_; (try clear hb); (try clear hb2); (try clear hk); (try clear hi); have hcz13_0 : w12.cell? ⟨gb329, 0, none⟩ = some (.string a0_0) := (blk_cell BK329.out 0).trans rfl; have hcz13_1 : w12.cell? ⟨gb329, 1, none⟩ = some (.string a0_1) := (blk_cell BK329.out 1).trans rfl; have hfz13_0 := blk_frozen BK329.out 0; have hfz13_1 := blk_frozen BK329.out 1))
      repeat (go_quiet (first | ((with_reducible refine gate_dst (N := 2) rfl ?_); (try (refine gate_guard (by rfl) ?_; dsimp only)); refine box_event ?hg (N := 2) ?hd (cs := #[.string a0_0, .string a0_1]) (t := 38) ?hr ?_; (case hd => rfl); (case hg => rfl); (case hr => first | (go_simp; done) | (go_simp; rfl)); intro gb329 hg w10 hbox hb; have n0_ := Aside0.mk (below_step (by repeat (first | (with_reducible first | exact HB.out | apply below_alloc | apply pw_below_drewN | apply below_drew1) | exact HB.out)) hb); have n1_ := Aside0.mk (hbox); have n2_ := Aside0.mk ((by rw [hg]; exact (below_size (by repeat (first | (with_reducible first | exact HB.out | apply below_alloc | apply pw_below_drewN | apply below_drew1) | exact HB.out))) : w.heap.size ≤ gb329)); have n3_ := Aside0.mk ((by rw [hg]; exact (below_size (by repeat (first | (with_reducible first | exact HB.out | apply below_alloc | apply pw_below_drewN | apply below_drew1) | exact HB.out))) : w.heap.size ≤ gb329)); clear HB; have HB := n0_; have BK329 := n1_; have GW329 := n2_; have GE329 := n3_; clear n0_ n1_ n2_ n3_; clear hb hbox hg; have hcz11_0 : w10.cell? ⟨gb329, 0, none⟩ = some (.string a0_0) := (blk_cell BK329.out 0).trans rfl; have hcz11_1 : w10.cell? ⟨gb329, 1, none⟩ = some (.string a0_1) := (blk_cell BK329.out 1).trans rfl; have hfz11_0 := blk_frozen BK329.out 0; have hfz11_1 := blk_frozen BK329.out 1) | (go_at_call 45; (with_reducible refine (impl_CompareVersions.calls k a1 a0_1 t330 _ A3.out).mono ?_); rintro e w12 ⟨rfl, hb⟩; have n0_ := Aside0.mk (blk_below (g := gb329) (o := .cells #[.string a0_0, .string a0_1] 38 (0, 0)) (by (with_reducible repeat (first | refine blk_drewN ?_ _ | refine blk_drew ?_ | refine blk_alloc ?_ _)); exact BK329.out) hb); have n1_ := Aside0.mk (below_step (by repeat (first | (with_reducible first | exact HB.out | apply below_alloc | apply pw_below_drewN | apply below_drew1 | refine below_set ?_ GE329.out) | exact HB.out)) hb); clear BK329; clear HB; have BK329 := n0_; have HB := n1_; clear n0_ n1_; (try clear hb); (try clear hb2); (try clear hk); (try clear hi); have hcz13_0 : w12.cell? ⟨gb329, 0, none⟩ = some (.string a0_0) := (blk_cell BK329.out 0).trans rfl; have hcz13_1 : w12.cell? ⟨gb329, 1, none⟩ = some (.string a0_1) := (blk_cell BK329.out 1).trans rfl; have hfz13_0 := blk_frozen BK329.out 0; have hfz13_1 := blk_frozen BK329.out 1)); try go_wp2_with (first | ((with_reducible refine gate_dst (N := 2) rfl ?_); (try (refine gate_guard (by rfl) ?_; dsimp only)); refine box_event ?hg (N := 2) ?hd (cs := #[.string a0_0, .string a0_1]) (t := 38) ?hr ?_; (case hd => rfl); (case hg => rfl); (case hr => first | (go_simp; done) | (go_simp; rfl)); intro gb329 hg w10 hbox hb; have n0_ := Aside0.mk (below_step (by repeat (first | (with_reducible first | exact HB.out | apply below_alloc | apply pw_below_drewN | apply below_drew1) | exact HB.out)) hb); have n1_ := Aside0.mk (hbox); have n2_ := Aside0.mk ((by rw [hg]; exact (below_size (by repeat (first | (with_reducible first | exact HB.out | apply below_alloc | apply pw_below_drewN | apply below_drew1) | exact HB.out))) : w.heap.size ≤ gb329)); have n3_ := Aside0.mk ((by rw [hg]; exact (below_size (by repeat (first | (with_reducible first | exact HB.out | apply below_alloc | apply pw_below_drewN | apply below_drew1) | exact HB.out))) : w.heap.size ≤ gb329)); clear HB; have HB := n0_; have BK329 := n1_; have GW329 := n2_; have GE329 := n3_; clear n0_ n1_ n2_ n3_; clear hb hbox hg; have hcz11_0 : w10.cell? ⟨gb329, 0, none⟩ = some (.string a0_0) := (blk_cell BK329.out 0).trans rfl; have hcz11_1 : w10.cell? ⟨gb329, 1, none⟩ = some (.string a0_1) := (blk_cell BK329.out 1).trans rfl; have hfz11_0 := blk_frozen BK329.out 0; have hfz11_1 := blk_frozen BK329.out 1) | (go_at_call 45; (with_reducible refine (impl_CompareVersions.calls k a1 a0_1 t330 _ A3.out).mono ?_); rintro e w12 ⟨rfl, hb⟩; have n0_ := Aside0.mk (blk_below (g := gb329) (o := .cells #[.string a0_0, .string a0_1] 38 (0, 0)) (by (with_reducible repeat (first | refine blk_drewN ?_ _ | refine blk_drew ?_ | refine blk_alloc ?_ _)); exact BK329.out) hb); have n1_ := Aside0.mk (below_step (by repeat (first | (with_reducible first | exact HB.out | apply below_alloc | apply pw_below_drewN | apply below_drew1 | refine below_set ?_ GE329.out) | exact HB.out)) hb); clear BK329; clear HB; have BK329 := n0_; have HB := n1_; clear n0_ n1_; (try clear hb); (try clear hb2); (try clear hk); (try clear hi); have hcz13_0 : w12.cell? ⟨gb329, 0, none⟩ = some (.string a0_0) := (blk_cell BK329.out 0).trans rfl; have hcz13_1 : w12.cell? ⟨gb329, 1, none⟩ = some (.string a0_1) := (blk_cell BK329.out 1).trans rfl; have hfz13_0 := blk_frozen BK329.out 0; have hfz13_1 := blk_frozen BK329.out 1)))
      go_ret
      exact ⟨by first | rfl | (simp [errW_none, errW_some] <;> rfl) | (simp [*, errW_none, errW_some] <;> rfl), by repeat (first | (with_reducible first | exact HB.out | apply below_alloc | apply pw_below_drewN | apply below_drew1 | refine below_set ?_ GE329.out) | exact HB.out)⟩
    · rw [if_neg c9] at H
      have c9b0 : (a0_0.toList == ([61] : List UInt8)) = false := beq_eq_false_iff_ne.mpr c9
      have c9b1 : (a0_0.toList != ([61] : List UInt8)) = true := bne_iff_ne.mpr c9
      by_cases c14 : a0_0.toList = ([33, 61] : List UInt8)
      · rw [if_pos c14] at H
        have c14b0 : (a0_0.toList == ([33, 61] : List UInt8)) = true := beq_iff_eq.mpr c14
        have c14b1 : (a0_0.toList != ([33, 61] : List UInt8)) = false := bne_eq_false_iff_eq.mpr c14
        clear c14
        obtain rfl := Option.some.inj H
        go_enter Tryd.func30, Tryd.ntmps30
        go_wp2_with (first | ((with_reducible refine gate_dst (N := 2) rfl ?_); (try (refine gate_guard (by rfl) ?_; dsimp only)); refine box_event ?hg (N := 2) ?hd (cs := #[.string a0_0, .string a0_1]) (t := 38) ?hr ?_; (case hd => rfl); (case hg => rfl); (case hr => first | (go_simp; done) | (go_simp; rfl)); intro gb329 hg w15 hbox hb; have n0_ := Aside0.mk (below_step (by repeat (first | (with_reducible first | exact HB.out | apply below_alloc | apply pw_below_drewN | apply below_drew1) | exact HB.out)) hb); have n1_ := Aside0.mk (hbox); have n2_ := Aside0.mk ((by rw [hg]; exact (below_size (by repeat (first | (with_reducible first | exact HB.out | apply below_alloc | apply pw_below_drewN | apply below_drew1) | exact HB.out))) : w.heap.size ≤ gb329)); have n3_ := Aside0.mk ((by rw [hg]; exact (below_size (by repeat (first | (with_reducible first | exact HB.out | apply below_alloc | apply pw_below_drewN | apply below_drew1) | exact HB.out))) : w.heap.size ≤ gb329)); clear HB; have HB := n0_; have BK329 := n1_; have GW329 := n2_; have GE329 := n3_; clear n0_ n1_ n2_ n3_; clear hb hbox hg; have hcz16_0 : w15.cell? ⟨gb329, 0, none⟩ = some (.string a0_0) := (blk_cell BK329.out 0).trans rfl; have hcz16_1 : w15.cell? ⟨gb329, 1, none⟩ = some (.string a0_1) := (blk_cell BK329.out 1).trans rfl; have hfz16_0 := blk_frozen BK329.out 0; have hfz16_1 := blk_frozen BK329.out 1) | (go_at_call 45; (with_reducible refine (impl_CompareVersions.calls k a1 a0_1 t330 _ A3.out).mono ?_); rintro e w17 ⟨rfl, hb⟩; have n0_ := Aside0.mk (blk_below (g := gb329) (o := .cells #[.string a0_0, .string a0_1] 38 (0, 0)) (by (with_reducible repeat (first | refine blk_drewN ?_ _ | refine blk_drew ?_ | refine blk_alloc ?_ _)); exact BK329.out) hb); have n1_ := Aside0.mk (below_step (by repeat (first | (with_reducible first | exact HB.out | apply below_alloc | apply pw_below_drewN | apply below_drew1 | refine below_set ?_ GE329.out) | exact HB.out)) hb); clear BK329; clear HB; have BK329 := n0_; have HB := n1_; clear n0_ n1_; (try clear hb); (try clear hb2); (try clear hk); (try clear hi); have hcz18_0 : w17.cell? ⟨gb329, 0, none⟩ = some (.string a0_0) := (blk_cell BK329.out 0).trans rfl; have hcz18_1 : w17.cell? ⟨gb329, 1, none⟩ = some (.string a0_1) := (blk_cell BK329.out 1).trans rfl; have hfz18_0 := blk_frozen BK329.out 0; have hfz18_1 := blk_frozen BK329.out 1))
        repeat (go_quiet (first | ((with_reducible refine gate_dst (N := 2) rfl ?_); (try (refine gate_guard (by rfl) ?_; dsimp only)); refine box_event ?hg (N := 2) ?hd (cs := #[.string a0_0, .string a0_1]) (t := 38) ?hr ?_; (case hd => rfl); (case hg => rfl); (case hr => first | (go_simp; done) | (go_simp; rfl)); intro gb329 hg w15 hbox hb; have n0_ := Aside0.mk (below_step (by repeat (first | (with_reducible first | exact HB.out | apply below_alloc | apply pw_below_drewN | apply below_drew1) | exact HB.out)) hb); have n1_ := Aside0.mk (hbox); have n2_ := Aside0.mk ((by rw [hg]; exact (below_size (by repeat (first | (with_reducible first | exact HB.out | apply below_alloc | apply pw_below_drewN | apply below_drew1) | exact HB.out))) : w.heap.size ≤ gb329)); have n3_ := Aside0.mk ((by rw [hg]; exact (below_size (by repeat (first | (with_reducible first | exact HB.out | apply below_alloc | apply pw_below_drewN | apply below_drew1) | exact HB.out))) : w.heap.size ≤ gb329)); clear HB; have HB := n0_; have BK329 := n1_; have GW329 := n2_; have GE329 := n3_; clear n0_ n1_ n2_ n3_; clear hb hbox hg; have hcz16_0 : w15.cell? ⟨gb329, 0, none⟩ = some (.string a0_0) := (blk_cell BK329.out 0).trans rfl; have hcz16_1 : w15.cell? ⟨gb329, 1, none⟩ = some (.string a0_1) := (blk_cell BK329.out 1).trans rfl; have hfz16_0 := blk_frozen BK329.out 0; have hfz16_1 := blk_frozen BK329.out 1) | (go_at_call 45; (with_reducible refine (impl_CompareVersions.calls k a1 a0_1 t330 _ A3.out).mono ?_); rintro e w17 ⟨rfl, hb⟩; have n0_ := Aside0.mk (blk_below (g := gb329) (o := .cells #[.string a0_0, .string a0_1] 38 (0, 0)) (by (with_reducible repeat (first | refine blk_drewN ?_ _ | refine blk_drew ?_ | refine blk_alloc ?_ _)); exact BK329.out) hb); have n1_ := Aside0.mk (below_step (by repeat (first | (with_reducible first | exact HB.out | apply below_alloc | apply pw_below_drewN | apply below_drew1 | refine below_set ?_ GE329.out) | exact HB.out)) hb); clear BK329; clear HB; have BK329 := n0_; have HB := n1_; clear n0_ n1_; (try clear hb); (try clear hb2); (try clear hk); (try clear hi); have hcz18_0 : w17.cell? ⟨gb329, 0, none⟩ = some (.string a0_0) := (blk_cell BK329.out 0).trans rfl; have hcz18_1 : w17.cell? ⟨gb329, 1, none⟩ = some (.string a0_1) := (blk_cell BK329.out 1).trans rfl; have hfz18_0 := blk_frozen BK329.out 0; have hfz18_1 := blk_frozen BK329.out 1)); try go_wp2_with (first | ((with_reducible refine gate_dst (N := 2) rfl ?_); (try (refine gate_guard (by rfl) ?_; dsimp only)); refine box_event ?hg (N := 2) ?hd (cs := #[.string a0_0, .string a0_1]) (t := 38) ?hr ?_; (case hd => rfl); (case hg => rfl); (case hr => first | (go_simp; done) | (go_simp; rfl)); intro gb329 hg w15 hbox hb; have n0_ := Aside0.mk (below_step (by repeat (first | (with_reducible first | exact HB.out | apply below_alloc | apply pw_below_drewN | apply below_drew1) | exact HB.out)) hb); have n1_ := Aside0.mk (hbox); have n2_ := Aside0.mk ((by rw [hg]; exact (below_size (by repeat (first | (with_reducible first | exact HB.out | apply below_alloc | apply pw_below_drewN | apply below_drew1) | exact HB.out))) : w.heap.size ≤ gb329)); have n3_ := Aside0.mk ((by rw [hg]; exact (below_size (by repeat (first | (with_reducible first | exact HB.out | apply below_alloc | apply pw_below_drewN | apply below_drew1) | exact HB.out))) : w.heap.size ≤ gb329)); clear HB; have HB := n0_; have BK329 := n1_; have GW329 := n2_; have GE329 := n3_; clear n0_ n1_ n2_ n3_; clear hb hbox hg; have hcz16_0 : w15.cell? ⟨gb329, 0, none⟩ = some (.string a0_0) := (blk_cell BK329.out 0).trans rfl; have hcz16_1 : w15.cell? ⟨gb329, 1, none⟩ = some (.string a0_1) := (blk_cell BK329.out 1).trans rfl; have hfz16_0 := blk_frozen BK329.out 0; have hfz16_1 := blk_frozen BK329.out 1) | (go_at_call 45; (with_reducible refine (impl_CompareVersions.calls k a1 a0_1 t330 _ A3.out).mono ?_); rintro e w17 ⟨rfl, hb⟩; have n0_ := Aside0.mk (blk_below (g := gb329) (o := .cells #[.string a0_0, .string a0_1] 38 (0, 0)) (by (with_reducible repeat (first | refine blk_drewN ?_ _ | refine blk_drew ?_ | refine blk_alloc ?_ _)); exact BK329.out) hb); have n1_ := Aside0.mk (below_step (by repeat (first | (with_reducible first | exact HB.out | apply below_alloc | apply pw_below_drewN | apply below_drew1 | refine below_set ?_ GE329.out) | exact HB.out)) hb); clear BK329; clear HB; have BK329 := n0_; have HB := n1_; clear n0_ n1_; (try clear hb); (try clear hb2); (try clear hk); (try clear hi); have hcz18_0 : w17.cell? ⟨gb329, 0, none⟩ = some (.string a0_0) := (blk_cell BK329.out 0).trans rfl; have hcz18_1 : w17.cell? ⟨gb329, 1, none⟩ = some (.string a0_1) := (blk_cell BK329.out 1).trans rfl; have hfz18_0 := blk_frozen BK329.out 0; have hfz18_1 := blk_frozen BK329.out 1)))
        go_ret
        exact ⟨by first | rfl | (simp [errW_none, errW_some] <;> rfl) | (simp [*, errW_none, errW_some] <;> rfl), by repeat (first | (with_reducible first | exact HB.out | apply below_alloc | apply pw_below_drewN | apply below_drew1 | refine below_set ?_ GE329.out) | exact HB.out)⟩
      · rw [if_neg c14] at H
        have c14b0 : (a0_0.toList == ([33, 61] : List UInt8)) = false := beq_eq_false_iff_ne.mpr c14
        have c14b1 : (a0_0.toList != ([33, 61] : List UInt8)) = true := bne_iff_ne.mpr c14
        by_cases c19 : a0_0.toList = ([62] : List UInt8)
        · rw [if_pos c19] at H
          have c19b0 : (a0_0.toList == ([62] : List UInt8)) = true := beq_iff_eq.mpr c19
          have c19b1 : (a0_0.toList != ([62] : List UInt8)) = false := bne_eq_false_iff_eq.mpr c19
          clear c19
          obtain rfl := Option.some.inj H
          go_enter Tryd.func30, Tryd.ntmps30
          go_wp2_with (first | ((with_reducible refine gate_dst (N := 2) rfl ?_); (try (refine gate_guard (by rfl) ?_; dsimp only)); refine box_event ?hg (N := 2) ?hd (cs := #[.string a0_0, .string a0_1]) (t := 38) ?hr ?_; (case hd => rfl); (case hg => rfl); (case hr => first | (go_simp; done) | (go_simp; rfl)); intro gb329 hg w20 hbox hb; have n0_ := Aside0.mk (below_step (by repeat (first | (with_reducible first | exact HB.out | apply below_alloc | apply pw_below_drewN | apply below_drew1) | exact HB.out)) hb); have n1_ := Aside0.mk (hbox); have n2_ := Aside0.mk ((by rw [hg]; exact (below_size (by repeat (first | (with_reducible first | exact HB.out | apply below_alloc | apply pw_below_drewN | apply below_drew1) | exact HB.out))) : w.heap.size ≤ gb329)); have n3_ := Aside0.mk ((by rw [hg]; exact (below_size (by repeat (first | (with_reducible first | exact HB.out | apply below_alloc | apply pw_below_drewN | apply below_drew1) | exact HB.out))) : w.heap.size ≤ gb329)); clear HB; have HB := n0_; have BK329 := n1_; have GW329 := n2_; have GE329 := n3_; clear n0_ n1_ n2_ n3_; clear hb hbox hg; have hcz21_0 : w20.cell? ⟨gb329, 0, none⟩ = some (.string a0_0) := (blk_cell BK329.out 0).trans rfl; have hcz21_1 : w20.cell? ⟨gb329, 1, none⟩ = some (.string a0_1) := (blk_cell BK329.out 1).trans rfl; have hfz21_0 := blk_frozen BK329.out 0; have hfz21_1 := blk_frozen BK329.out 1) | (go_at_call 45; (with_reducible refine (impl_CompareVersions.calls k a1 a0_1 t330 _ A3.out).mono ?_); rintro e w22 ⟨rfl, hb⟩; have n0_ := Aside0.mk (blk_below (g := gb329) (o := .cells #[.string a0_0, .string a0_1] 38 (0, 0)) (by (with_reducible repeat (first | refine blk_drewN ?_ _ | refine blk_drew ?_ | refine blk_alloc ?_ _)); exact BK329.out) hb); have n1_ := Aside0.mk (below_step (by repeat (first | (with_reducible first | exact HB.out | apply below_alloc | apply pw_below_drewN | apply below_drew1 | refine below_set ?_ GE329.out) | exact HB.out)) hb); clear BK329; clear HB; have BK329 := n0_; have HB := n1_; clear n0_ n1_; (try clear hb); (try clear hb2); (try clear hk); (try clear hi); have hcz23_0 : w22.cell? ⟨gb329, 0, none⟩ = some (.string a0_0) := (blk_cell BK329.out 0).trans rfl; have hcz23_1 : w22.cell? ⟨gb329, 1, none⟩ = some (.string a0_1) := (blk_cell BK329.out 1).trans rfl; have hfz23_0 := blk_frozen BK329.out 0; have hfz23_1 := blk_frozen BK329.out 1))
          repeat (go_quiet (first | ((with_reducible refine gate_dst (N := 2) rfl ?_); (try (refine gate_guard (by rfl) ?_; dsimp only)); refine box_event ?hg (N := 2) ?hd (cs := #[.string a0_0, .string a0_1]) (t := 38) ?hr ?_; (case hd => rfl); (case hg => rfl); (case hr => first | (go_simp; done) | (go_simp; rfl)); intro gb329 hg w20 hbox hb; have n0_ := Aside0.mk (below_step (by repeat (first | (with_reducible first | exact HB.out | apply below_alloc | apply pw_below_drewN | apply below_drew1) | exact HB.out)) hb); have n1_ := Aside0.mk (hbox); have n2_ := Aside0.mk ((by rw [hg]; exact (below_size (by repeat (first | (with_reducible first | exact HB.out | apply below_alloc | apply pw_below_drewN | apply below_drew1) | exact HB.out))) : w.heap.size ≤ gb329)); have n3_ := Aside0.mk ((by rw [hg]; exact (below_size (by repeat (first | (with_reducible first | exact HB.out | apply below_alloc | apply pw_below_drewN | apply below_drew1) | exact HB.out))) : w.heap.size ≤ gb329)); clear HB; have HB := n0_; have BK329 := n1_; have GW329 := n2_; have GE329 := n3_; clear n0_ n1_ n2_ n3_; clear hb hbox hg; have hcz21_0 : w20.cell? ⟨gb329, 0, none⟩ = some (.string a0_0) := (blk_cell BK329.out 0).trans rfl; have hcz21_1 : w20.cell? ⟨gb329, 1, none⟩ = some (.string a0_1) := (blk_cell BK329.out 1).trans rfl; have hfz21_0 := blk_frozen BK329.out 0; have hfz21_1 := blk_frozen BK329.out 1) | (go_at_call 45; (with_reducible refine (impl_CompareVersions.calls k a1 a0_1 t330 _ A3.out).mono ?_); rintro e w22 ⟨rfl, hb⟩; have n0_ := Aside0.mk (blk_below (g := gb329) (o := .cells #[.string a0_0, .string a0_1] 38 (0, 0)) (by (with_reducible repeat (first | refine blk_drewN ?_ _ | refine blk_drew ?_ | refine blk_alloc ?_ _)); exact BK329.out) hb); have n1_ := Aside0.mk (below_step (by repeat (first | (with_reducible first | exact HB.out | apply below_alloc | apply pw_below_drewN | apply below_drew1 | refine below_set ?_ GE329.out) | exact HB.out)) hb); clear BK329; clear HB; have BK329 := n0_; have HB := n1_; clear n0_ n1_; (try clear hb); (try clear hb2); (try clear hk); (try clear hi); have hcz23_0 : w22.cell? ⟨gb329, 0, none⟩ = some (.string a0_0) := (blk_cell BK329.out 0).trans rfl; have hcz23_1 : w22.cell? ⟨gb329, 1, none⟩ = some (.string a0_1) := (blk_cell BK329.out 1).trans rfl; have hfz23_0 := blk_frozen BK329.out 0; have hfz23_1 := blk_frozen BK329.out 1)); try go_wp2_with (first | ((with_reducible refine gate_dst (N := 2) rfl ?_); (try (refine gate_guard (by rfl) ?_; dsimp only)); refine box_event ?hg (N := 2) ?hd (cs := #[.string a0_0, .string a0_1]) (t := 38) ?hr ?_; (case hd => rfl); (case hg => rfl); (case hr => first | (go_simp; done) | (go_simp; rfl)); intro gb329 hg w20 hbox hb; have n0_ := Aside0.mk (below_step (by repeat (first | (with_reducible first | exact HB.out | apply below_alloc | apply pw_below_drewN | apply below_drew1) | exact HB.out)) hb); have n1_ := Aside0.mk (hbox); have n2_ := Aside0.mk ((by rw [hg]; exact (below_size (by repeat (first | (with_reducible first | exact HB.out | apply below_alloc | apply pw_below_drewN | apply below_drew1) | exact HB.out))) : w.heap.size ≤ gb329)); have n3_ := Aside0.mk ((by rw [hg]; exact (below_size (by repeat (first | (with_reducible first | exact HB.out | apply below_alloc | apply pw_below_drewN | apply below_drew1) | exact HB.out))) : w.heap.size ≤ gb329)); clear HB; have HB := n0_; have BK329 := n1_; have GW329 := n2_; have GE329 := n3_; clear n0_ n1_ n2_ n3_; clear hb hbox hg; have hcz21_0 : w20.cell? ⟨gb329, 0, none⟩ = some (.string a0_0) := (blk_cell BK329.out 0).trans rfl; have hcz21_1 : w20.cell? ⟨gb329, 1, none⟩ = some (.string a0_1) := (blk_cell BK329.out 1).trans rfl; have hfz21_0 := blk_frozen BK329.out 0; have hfz21_1 := blk_frozen BK329.out 1) | (go_at_call 45; (with_reducible refine (impl_CompareVersions.calls k a1 a0_1 t330 _ A3.out).mono ?_); rintro e w22 ⟨rfl, hb⟩; have n0_ := Aside0.mk (blk_below (g := gb329) (o := .cells #[.string a0_0, .string a0_1] 38 (0, 0)) (by (with_reducible repeat (first | refine blk_drewN ?_ _ | refine blk_drew ?_ | refine blk_alloc ?_ _)); exact BK329.out) hb); have n1_ := Aside0.mk (below_step (by repeat (first | (with_reducible first | exact HB.out | apply below_alloc | apply pw_below_drewN | apply below_drew1 | refine below_set ?_ GE329.out) | exact HB.out)) hb); clear BK329; clear HB; have BK329 := n0_; have HB := n1_; clear n0_ n1_; (try clear hb); (try clear hb2); (try clear hk); (try clear hi); have hcz23_0 : w22.cell? ⟨gb329, 0, none⟩ = some (.string a0_0) := (blk_cell BK329.out 0).trans rfl; have hcz23_1 : w22.cell? ⟨gb329, 1, none⟩ = some (.string a0_1) := (blk_cell BK329.out 1).trans rfl; have hfz23_0 := blk_frozen BK329.out 0; have hfz23_1 := blk_frozen BK329.out 1)))
          go_ret
          exact ⟨by first | rfl | (simp [errW_none, errW_some] <;> rfl) | (simp [*, errW_none, errW_some] <;> rfl), by repeat (first | (with_reducible first | exact HB.out | apply below_alloc | apply pw_below_drewN | apply below_drew1 | refine below_set ?_ GE329.out) | exact HB.out)⟩
        · rw [if_neg c19] at H
          have c19b0 : (a0_0.toList == ([62] : List UInt8)) = false := beq_eq_false_iff_ne.mpr c19
          have c19b1 : (a0_0.toList != ([62] : List UInt8)) = true := bne_iff_ne.mpr c19
          by_cases c24 : a0_0.toList = ([62, 61] : List UInt8)
          · rw [if_pos c24] at H
            have c24b0 : (a0_0.toList == ([62, 61] : List UInt8)) = true := beq_iff_eq.mpr c24
            have c24b1 : (a0_0.toList != ([62, 61] : List UInt8)) = false := bne_eq_false_iff_eq.mpr c24
            clear c24
            obtain rfl := Option.some.inj H
            go_enter Tryd.func30, Tryd.ntmps30
            go_wp2_with (first | ((with_reducible refine gate_dst (N := 2) rfl ?_); (try (refine gate_guard (by rfl) ?_; dsimp only)); refine box_event ?hg (N := 2) ?hd (cs := #[.string a0_0, .string a0_1]) (t := 38) ?hr ?_; (case hd => rfl); (case hg => rfl); (case hr => first | (go_simp; done) | (go_simp; rfl)); intro gb329 hg w25 hbox hb; have n0_ := Aside0.mk (below_step (by repeat (first | (with_reducible first | exact HB.out | apply below_alloc | apply pw_below_drewN | apply below_drew1) | exact HB.out)) hb); have n1_ := Aside0.mk (hbox); have n2_ := Aside0.mk ((by rw [hg]; exact (below_size (by repeat (first | (with_reducible first | exact HB.out | apply below_alloc | apply pw_below_drewN | apply below_drew1) | exact HB.out))) : w.heap.size ≤ gb329)); have n3_ := Aside0.mk ((by rw [hg]; exact (below_size (by repeat (first | (with_reducible first | exact HB.out | apply below_alloc | apply pw_below_drewN | apply below_drew1) | exact HB.out))) : w.heap.size ≤ gb329)); clear HB; have HB := n0_; have BK329 := n1_; have GW329 := n2_; have GE329 := n3_; clear n0_ n1_ n2_ n3_; clear hb hbox hg; have hcz26_0 : w25.cell? ⟨gb329, 0, none⟩ = some (.string a0_0) := (blk_cell BK329.out 0).trans rfl; have hcz26_1 : w25.cell? ⟨gb329, 1, none⟩ = some (.string a0_1) := (blk_cell BK329.out 1).trans rfl; have hfz26_0 := blk_frozen BK329.out 0; have hfz26_1 := blk_frozen BK329.out 1) | (go_at_call 45; (with_reducible refine (impl_CompareVersions.calls k a1 a0_1 t330 _ A3.out).mono ?_); rintro e w27 ⟨rfl, hb⟩; have n0_ := Aside0.mk (blk_below (g := gb329) (o := .cells #[.string a0_0, .string a0_1] 38 (0, 0)) (by (with_reducible repeat (first | refine blk_drewN ?_ _ | refine blk_drew ?_ | refine blk_alloc ?_ _)); exact BK329.out) hb); have n1_ := Aside0.mk (below_step (by repeat (first | (with_reducible first | exact HB.out | apply below_alloc | apply pw_below_drewN | apply below_drew1 | refine below_set ?_ GE329.out) | exact HB.out)) hb); clear BK329; clear HB; have BK329 := n0_; have HB := n1_; clear n0_ n1_; (try clear hb); (try clear hb2); (try clear hk); (try clear hi); have hcz28_0 : w27.cell? ⟨gb329, 0, none⟩ = some (.string a0_0) := (blk_cell BK329.out 0).trans rfl; have hcz28_1 : w27.cell? ⟨gb329, 1, none⟩ = some (.string a0_1) := (blk_cell BK329.out 1).trans rfl; have hfz28_0 := blk_frozen BK329.out 0; have hfz28_1 := blk_frozen BK329.out 1))
            repeat (go_quiet (first | ((with_reducible refine gate_dst (N := 2) rfl ?_); (try (refine gate_guard (by rfl) ?_; dsimp only)); refine box_event ?hg (N := 2) ?hd (cs := #[.string a0_0, .string a0_1]) (t := 38) ?hr ?_; (case hd => rfl); (case hg => rfl); (case hr => first | (go_simp; done) | (go_simp; rfl)); intro gb329 hg w25 hbox hb; have n0_ := Aside0.mk (below_step (by repeat (first | (with_reducible first | exact HB.out | apply below_alloc | apply pw_below_drewN | apply below_drew1) | exact HB.out)) hb); have n1_ := Aside0.mk (hbox); have n2_ := Aside0.mk ((by rw [hg]; exact (below_size (by repeat (first | (with_reducible first | exact HB.out | apply below_alloc | apply pw_below_drewN | apply below_drew1) | exact HB.out))) : w.heap.size ≤ gb329)); have n3_ := Aside0.mk ((by rw [hg]; exact (below_size (by repeat (first | (with_reducible first | exact HB.out | apply below_alloc | apply pw_below_drewN | apply below_drew1) | exact HB.out))) : w.heap.size ≤ gb329)); clear HB; have HB := n0_; have BK329 := n1_; have GW329 := n2_; have GE329 := n3_; clear n0_ n1_ n2_ n3_; clear hb hbox hg; have hcz26_0 : w25.cell? ⟨gb329, 0, none⟩ = some (.string a0_0) := (blk_cell BK329.out 0).trans rfl; have hcz26_1 : w25.cell? ⟨gb329, 1, none⟩ = some (.string a0_1) := (blk_cell BK329.out 1).trans rfl; have hfz26_0 := blk_frozen BK329.out 0; have hfz26_1 := blk_frozen BK329.out 1) | (go_at_call 45; (with_reducible refine (impl_CompareVersions.calls k a1 a0_1 t330 _ A3.out).mono ?_); rintro e w27 ⟨rfl, hb⟩; have n0_ := Aside0.mk (blk_below (g := gb329) (o := .cells #[.string a0_0, .string a0_1] 38 (0, 0)) (by (with_reducible repeat (first | refine blk_drewN ?_ _ | refine blk_drew ?_ | refine blk_alloc ?_ _)); exact BK329.out) hb); have n1_ := Aside0.mk (below_step (by repeat (first | (with_reducible first | exact HB.out | apply below_alloc | apply pw_below_drewN | apply below_drew1 | refine below_set ?_ GE329.out) | exact HB.out)) hb); clear BK329; clear HB; have BK329 := n0_; have HB := n1_; clear n0_ n1_; (try clear hb); (try clear hb2); (try clear hk); (try clear hi); have hcz28_0 : w27.cell? ⟨gb329, 0, none⟩ = some (.string a0_0) := (blk_cell BK329.out 0).trans rfl; have hcz28_1 : w27.cell? ⟨gb329, 1, none⟩ = some (.string a0_1) := (blk_cell BK329.out 1).trans rfl; have hfz28_0 := blk_frozen BK329.out 0; have hfz28_1 := blk_frozen BK329.out 1)); try go_wp2_with (first | ((with_reducible refine gate_dst (N := 2) rfl ?_); (try (refine gate_guard (by rfl) ?_; dsimp only)); refine box_event ?hg (N := 2) ?hd (cs := #[.string a0_0, .string a0_1]) (t := 38) ?hr ?_; (case hd => rfl); (case hg => rfl); (case hr => first | (go_simp; done) | (go_simp; rfl)); intro gb329 hg w25 hbox hb; have n0_ := Aside0.mk (below_step (by repeat (first | (with_reducible first | exact HB.out | apply below_alloc | apply pw_below_drewN | apply below_drew1) | exact HB.out)) hb); have n1_ := Aside0.mk (hbox); have n2_ := Aside0.mk ((by rw [hg]; exact (below_size (by repeat (first | (with_reducible first | exact HB.out | apply below_alloc | apply pw_below_drewN | apply below_drew1) | exact HB.out))) : w.heap.size ≤ gb329)); have n3_ := Aside0.mk ((by rw [hg]; exact (below_size (by repeat (first | (with_reducible first | exact HB.out | apply below_alloc | apply pw_below_drewN | apply below_drew1) | exact HB.out))) : w.heap.size ≤ gb329)); clear HB; have HB := n0_; have BK329 := n1_; have GW329 := n2_; have GE329 := n3_; clear n0_ n1_ n2_ n3_; clear hb hbox hg; have hcz26_0 : w25.cell? ⟨gb329, 0, none⟩ = some (.string a0_0) := (blk_cell BK329.out 0).trans rfl; have hcz26_1 : w25.cell? ⟨gb329, 1, none⟩ = some (.string a0_1) := (blk_cell BK329.out 1).trans rfl; have hfz26_0 := blk_frozen BK329.out 0; have hfz26_1 := blk_frozen BK329.out 1) | (go_at_call 45; (with_reducible refine (impl_CompareVersions.calls k a1 a0_1 t330 _ A3.out).mono ?_); rintro e w27 ⟨rfl, hb⟩; have n0_ := Aside0.mk (blk_below (g := gb329) (o := .cells #[.string a0_0, .string a0_1] 38 (0, 0)) (by (with_reducible repeat (first | refine blk_drewN ?_ _ | refine blk_drew ?_ | refine blk_alloc ?_ _)); exact BK329.out) hb); have n1_ := Aside0.mk (below_step (by repeat (first | (with_reducible first | exact HB.out | apply below_alloc | apply pw_below_drewN | apply below_drew1 | refine below_set ?_ GE329.out) | exact HB.out)) hb); clear BK329; clear HB; have BK329 := n0_; have HB := n1_; clear n0_ n1_; (try clear hb); (try clear hb2); (try clear hk); (try clear hi); have hcz28_0 : w27.cell? ⟨gb329, 0, none⟩ = some (.string a0_0) := (blk_cell BK329.out 0).trans rfl; have hcz28_1 : w27.cell? ⟨gb329, 1, none⟩ = some (.string a0_1) := (blk_cell BK329.out 1).trans rfl; have hfz28_0 := blk_frozen BK329.out 0; have hfz28_1 := blk_frozen BK329.out 1)))
            go_ret
            exact ⟨by first | rfl | (simp [errW_none, errW_some] <;> rfl) | (simp [*, errW_none, errW_some] <;> rfl), by repeat (first | (with_reducible first | exact HB.out | apply below_alloc | apply pw_below_drewN | apply below_drew1 | refine below_set ?_ GE329.out) | exact HB.out)⟩
          · rw [if_neg c24] at H
            have c24b0 : (a0_0.toList == ([62, 61] : List UInt8)) = false := beq_eq_false_iff_ne.mpr c24
            have c24b1 : (a0_0.toList != ([62, 61] : List UInt8)) = true := bne_iff_ne.mpr c24
            by_cases c29 : a0_0.toList = ([60] : List UInt8)
            · rw [if_pos c29] at H
              have c29b0 : (a0_0.toList == ([60] : List UInt8)) = true := beq_iff_eq.mpr c29
              have c29b1 : (a0_0.toList != ([60] : List UInt8)) = false := bne_eq_false_iff_eq.mpr c29
              clear c29
              obtain rfl := Option.some.inj H
              go_enter Tryd.func30, Tryd.ntmps30
              go_wp2_with (first | ((with_reducible refine gate_dst (N := 2) rfl ?_); (try (refine gate_guard (by rfl) ?_; dsimp only)); refine box_event ?hg (N := 2) ?hd (cs := #[.string a0_0, .string a0_1]) (t := 38) ?hr ?_; (case hd => rfl); (case hg => rfl); (case hr => first | (go_simp; done) | (go_simp; rfl)); intro gb329 hg w30 hbox hb; have n0_ := Aside0.mk (below_step (by repeat (first | (with_reducible first | exact HB.out | apply below_alloc | apply pw_below_drewN | apply below_drew1) | exact HB.out)) hb); have n1_ := Aside0.mk (hbox); have n2_ := Aside0.mk ((by rw [hg]; exact (below_size (by repeat (first | (with_reducible first | exact HB.out | apply below_alloc | apply pw_below_drewN | apply below_drew1) | exact HB.out))) : w.heap.size ≤ gb329)); have n3_ := Aside0.mk ((by rw [hg]; exact (below_size (by repeat (first | (with_reducible first | exact HB.out | apply below_alloc | apply pw_below_drewN | apply below_drew1) | exact HB.out))) : w.heap.size ≤ gb329)); clear HB; have HB := n0_; have BK329 := n1_; have GW329 := n2_; have GE329 := n3_; clear n0_ n1_ n2_ n3_; clear hb hbox hg; have hcz31_0 : w30.cell? ⟨gb329, 0, none⟩ = some (.string a0_0) := (blk_cell BK329.out 0).trans rfl; have hcz31_1 : w30.cell? ⟨gb329, 1, none⟩ = some (.string a0_1) := (blk_cell BK329.out 1).trans rfl; have hfz31_0 := blk_frozen BK329.out 0; have hfz31_1 := blk_frozen BK329.out 1) | (go_at_call 45; (with_reducible refine (impl_CompareVersions.calls k a1 a0_1 t330 _ A3.out).mono ?_); rintro e w32 ⟨rfl, hb⟩; have n0_ := Aside0.mk (blk_below (g := gb329) (o := .cells #[.string a0_0, .string a0_1] 38 (0, 0)) (by (with_reducible repeat (first | refine blk_drewN ?_ _ | refine blk_drew ?_ | refine blk_alloc ?_ _)); exact BK329.out) hb); have n1_ := Aside0.mk (below_step (by repeat (first | (with_reducible first | exact HB.out | apply below_alloc | apply pw_below_drewN | apply below_drew1 | refine below_set ?_ GE329.out) | exact HB.out)) hb); clear BK329; clear HB; have BK329 := n0_; have HB := n1_; clear n0_ n1_; (try clear hb); (try clear hb2); (try clear hk); (try clear hi); have hcz33_0 : w32.cell? ⟨gb329, 0, none⟩ = some (.string a0_0) := (blk_cell BK329.out 0).trans rfl; have hcz33_1 : w32.cell? ⟨gb329, 1, none⟩ = some (.string a0_1) := (blk_cell BK329.out 1).trans rfl; have hfz33_0 := blk_frozen BK329.out 0; have hfz33_1 := blk_frozen BK329.out 1))
              repeat (go_quiet (first | ((with_reducible refine gate_dst (N := 2) rfl ?_); (try (refine gate_guard (by rfl) ?_; dsimp only)); refine box_event ?hg (N := 2) ?hd (cs := #[.string a0_0, .string a0_1]) (t := 38) ?hr ?_; (case hd => rfl); (case hg => rfl); (case hr => first | (go_simp; done) | (go_simp; rfl)); intro gb329 hg w30 hbox hb; have n0_ := Aside0.mk (below_step (by repeat (first | (with_reducible first | exact HB.out | apply below_alloc | apply pw_below_drewN | apply below_drew1) | exact HB.out)) hb); have n1_ := Aside0.mk (hbox); have n2_ := Aside0.mk ((by rw [hg]; exact (below_size (by repeat (first | (with_reducible first | exact HB.out | apply below_alloc | apply pw_below_drewN | apply below_drew1) | exact HB.out))) : w.heap.size ≤ gb329)); have n3_ := Aside0.mk ((by rw [hg]; exact (below_size (by repeat (first | (with_reducible first | exact HB.out | apply below_alloc | apply pw_below_drewN | apply below_drew1) | exact HB.out))) : w.heap.size ≤ gb329)); clear HB; have HB := n0_; have BK329 := n1_; have GW329 := n2_; have GE329 := n3_; clear n0_ n1_ n2_ n3_; clear hb hbox hg; have hcz31_0 : w30.cell? ⟨gb329, 0, none⟩ = some (.string a0_0) := (blk_cell BK329.out 0).trans rfl; have hcz31_1 : w30.cell? ⟨gb329, 1, none⟩ = some (.string a0_1) := (blk_cell BK329.out 1).trans rfl; have hfz31_0 := blk_frozen BK329.out 0; have hfz31_1 := blk_frozen BK329.out 1) | (go_at_call 45; (with_reducible refine (impl_CompareVersions.calls k a1 a0_1 t330 _ A3.out).mono ?_); rintro e w32 ⟨rfl, hb⟩; have n0_ := Aside0.mk (blk_below (g := gb329) (o := .cells #[.string a0_0, .string a0_1] 38 (0, 0)) (by (with_reducible repeat (first | refine blk_drewN ?_ _ | refine blk_drew ?_ | refine blk_alloc ?_ _)); exact BK329.out) hb); have n1_ := Aside0.mk (below_step (by repeat (first | (with_reducible first | exact HB.out | apply below_alloc | apply pw_below_drewN | apply below_drew1 | refine below_set ?_ GE329.out) | exact HB.out)) hb); clear BK329; clear HB; have BK329 := n0_; have HB := n1_; clear n0_ n1_; (try clear hb); (try clear hb2); (try clear hk); (try clear hi); have hcz33_0 : w32.cell? ⟨gb329, 0, none⟩ = some (.string a0_0) := (blk_cell BK329.out 0).trans rfl; have hcz33_1 : w32.cell? ⟨gb329, 1, none⟩ = some (.string a0_1) := (blk_cell BK329.out 1).trans rfl; have hfz33_0 := blk_frozen BK329.out 0; have hfz33_1 := blk_frozen BK329.out 1)); try go_wp2_with (first | ((with_reducible refine gate_dst (N := 2) rfl ?_); (try (refine gate_guard (by rfl) ?_; dsimp only)); refine box_event ?hg (N := 2) ?hd (cs := #[.string a0_0, .string a0_1]) (t := 38) ?hr ?_; (case hd => rfl); (case hg => rfl); (case hr => first | (go_simp; done) | (go_simp; rfl)); intro gb329 hg w30 hbox hb; have n0_ := Aside0.mk (below_step (by repeat (first | (with_reducible first | exact HB.out | apply below_alloc | apply pw_below_drewN | apply below_drew1) | exact HB.out)) hb); have n1_ := Aside0.mk (hbox); have n2_ := Aside0.mk ((by rw [hg]; exact (below_size (by repeat (first | (with_reducible first | exact HB.out | apply below_alloc | apply pw_below_drewN | apply below_drew1) | exact HB.out))) : w.heap.size ≤ gb329)); have n3_ := Aside0.mk ((by rw [hg]; exact (below_size (by repeat (first | (with_reducible first | exact HB.out | apply below_alloc | apply pw_below_drewN | apply below_drew1) | exact HB.out))) : w.heap.size ≤ gb329)); clear HB; have HB := n0_; have BK329 := n1_; have GW329 := n2_; have GE329 := n3_; clear n0_ n1_ n2_ n3_; clear hb hbox hg; have hcz31_0 : w30.cell? ⟨gb329, 0, none⟩ = some (.string a0_0) := (blk_cell BK329.out 0).trans rfl; have hcz31_1 : w30.cell? ⟨gb329, 1, none⟩ = some (.string a0_1) := (blk_cell BK329.out 1).trans rfl; have hfz31_0 := blk_frozen BK329.out 0; have hfz31_1 := blk_frozen BK329.out 1) | (go_at_call 45; (with_reducible refine (impl_CompareVersions.calls k a1 a0_1 t330 _ A3.out).mono ?_); rintro e w32 ⟨rfl, hb⟩; have n0_ := Aside0.mk (blk_below (g := gb329) (o := .cells #[.string a0_0, .string a0_1] 38 (0, 0)) (by (with_reducible repeat (first | refine blk_drewN ?_ _ | refine blk_drew ?_ | refine blk_alloc ?_ _)); exact BK329.out) hb); have n1_ := Aside0.mk (below_step (by repeat (first | (with_reducible first | exact HB.out | apply below_alloc | apply pw_below_drewN | apply below_drew1 | refine below_set ?_ GE329.out) | exact HB.out)) hb); clear BK329; clear HB; have BK329 := n0_; have HB := n1_; clear n0_ n1_; (try clear hb); (try clear hb2); (try clear hk); (try clear hi); have hcz33_0 : w32.cell? ⟨gb329, 0, none⟩ = some (.string a0_0) := (blk_cell BK329.out 0).trans rfl; have hcz33_1 : w32.cell? ⟨gb329, 1, none⟩ = some (.string a0_1) := (blk_cell BK329.out 1).trans rfl; have hfz33_0 := blk_frozen BK329.out 0; have hfz33_1 := blk_frozen BK329.out 1)))
              go_ret
              exact ⟨by first | rfl | (simp [errW_none, errW_some] <;> rfl) | (simp [*, errW_none, errW_some] <;> rfl), by repeat (first | (with_reducible first | exact HB.out | apply below_alloc | apply pw_below_drewN | apply below_drew1 | refine below_set ?_ GE329.out) | exact HB.out)⟩
            · rw [if_neg c29] at H
              have c29b0 : (a0_0.toList == ([60] : List UInt8)) = false := beq_eq_false_iff_ne.mpr c29
              have c29b1 : (a0_0.toList != ([60] : List UInt8)) = true := bne_iff_ne.mpr c29
              by_cases c34 : a0_0.toList = ([60, 61] : List UInt8)
              · rw [if_pos c34] at H
                have c34b0 : (a0_0.toList == ([60, 61] : List UInt8)) = true := beq_iff_eq.mpr c34
                have c34b1 : (a0_0.toList != ([60, 61] : List UInt8)) = false := bne_eq_false_iff_eq.mpr c34
                clear c34
                obtain rfl := Option.some.inj H
                go_enter Tryd.func30, Tryd.ntmps30
                go_wp2_with (first | ((with_reducible refine gate_dst (N := 2) rfl ?_); (try (refine gate_guard (by rfl) ?_; dsimp only)); refine box_event ?hg (N := 2) ?hd (cs := #[.string a0_0, .string a0_1]) (t := 38) ?hr ?_; (case hd => rfl); (case hg => rfl); (case hr => first | (go_simp; done) | (go_simp; rfl)); intro gb329 hg w35 hbox hb; have n0_ := Aside0.mk (below_step (by repeat (first | (with_reducible first | exact HB.out | apply below_alloc | apply pw_below_drewN | apply below_drew1) | exact HB.out)) hb); have n1_ := Aside0.mk (hbox); have n2_ := Aside0.mk ((by rw [hg]; exact (below_size (by repeat (first | (with_reducible first | exact HB.out | apply below_alloc | apply pw_below_drewN | apply below_drew1) | exact HB.out))) : w.heap.size ≤ gb329)); have n3_ := Aside0.mk ((by rw [hg]; exact (below_size (by repeat (first | (with_reducible first | exact HB.out | apply below_alloc | apply pw_below_drewN | apply below_drew1) | exact HB.out))) : w.heap.size ≤ gb329)); clear HB; have HB := n0_; have BK329 := n1_; have GW329 := n2_; have GE329 := n3_; clear n0_ n1_ n2_ n3_; clear hb hbox hg; have hcz36_0 : w35.cell? ⟨gb329, 0, none⟩ = some (.string a0_0) := (blk_cell BK329.out 0).trans rfl; have hcz36_1 : w35.cell? ⟨gb329, 1, none⟩ = some (.string a0_1) := (blk_cell BK329.out 1).trans rfl; have hfz36_0 := blk_frozen BK329.out 0; have hfz36_1 := blk_frozen BK329.out 1) | (go_at_call 45; (with_reducible refine (impl_CompareVersions.calls k a1 a0_1 t330 _ A3.out).mono ?_); rintro e w37 ⟨rfl, hb⟩; have n0_ := Aside0.mk (blk_below (g := gb329) (o := .cells #[.string a0_0, .string a0_1] 38 (0, 0)) (by (with_reducible repeat (first | refine blk_drewN ?_ _ | refine blk_drew ?_ | refine blk_alloc ?_ _)); exact BK329.out) hb); have n1_ := Aside0.mk (below_step (by repeat (first | (with_reducible first | exact HB.out | apply below_alloc | apply pw_below_drewN | apply below_drew1 | refine below_set ?_ GE329.out) | exact HB.out)) hb); clear BK329; clear HB; have BK329 := n0_; have HB := n1_; clear n0_ n1_; (try clear hb); (try clear hb2); (try clear hk); (try clear hi); have hcz38_0 : w37.cell? ⟨gb329, 0, none⟩ = some (.string a0_0) := (blk_cell BK329.out 0).trans rfl; have hcz38_1 : w37.cell? ⟨gb329, 1, none⟩ = some (.string a0_1) := (blk_cell BK329.out 1).trans rfl; have hfz38_0 := blk_frozen BK329.out 0; have hfz38_1 := blk_frozen BK329.out 1))
                repeat (go_quiet (first | ((with_reducible refine gate_dst (N := 2) rfl ?_); (try (refine gate_guard (by rfl) ?_; dsimp only)); refine box_event ?hg (N := 2) ?hd (cs := #[.string a0_0, .string a0_1]) (t := 38) ?hr ?_; (case hd => rfl); (case hg => rfl); (case hr => first | (go_simp; done) | (go_simp; rfl)); intro gb329 hg w35 hbox hb; have n0_ := Aside0.mk (below_step (by repeat (first | (with_reducible first | exact HB.out | apply below_alloc | apply pw_below_drewN | apply below_drew1) | exact HB.out)) hb); have n1_ := Aside0.mk (hbox); have n2_ := Aside0.mk ((by rw [hg]; exact (below_size (by repeat (first | (with_reducible first | exact HB.out | apply below_alloc | apply pw_below_drewN | apply below_drew1) | exact HB.out))) : w.heap.size ≤ gb329)); have n3_ := Aside0.mk ((by rw [hg]; exact (below_size (by repeat (first | (with_reducible first | exact HB.out | apply below_alloc | apply pw_below_drewN | apply below_drew1) | exact HB.out))) : w.heap.size ≤ gb329)); clear HB; have HB := n0_; have BK329 := n1_; have GW329 := n2_; have GE329 := n3_; clear n0_ n1_ n2_ n3_; clear hb hbox hg; have hcz36_0 : w35.cell? ⟨gb329, 0, none⟩ = some (.string a0_0) := (blk_cell BK329.out 0).trans rfl; have hcz36_1 : w35.cell? ⟨gb329, 1, none⟩ = some (.string a0_1) := (blk_cell BK329.out 1).trans rfl; have hfz36_0 := blk_frozen BK329.out 0; have hfz36_1 := blk_frozen BK329.out 1) | (go_at_call 45; (with_reducible refine (impl_CompareVersions.calls k a1 a0_1 t330 _ A3.out).mono ?_); rintro e w37 ⟨rfl, hb⟩; have n0_ := Aside0.mk (blk_below (g := gb329) (o := .cells #[.string a0_0, .string a0_1] 38 (0, 0)) (by (with_reducible repeat (first | refine blk_drewN ?_ _ | refine blk_drew ?_ | refine blk_alloc ?_ _)); exact BK329.out) hb); have n1_ := Aside0.mk (below_step (by repeat (first | (with_reducible first | exact HB.out | apply below_alloc | apply pw_below_drewN | apply below_drew1 | refine below_set ?_ GE329.out) | exact HB.out)) hb); clear BK329; clear HB; have BK329 := n0_; have HB := n1_; clear n0_ n1_; (try clear hb); (try clear hb2); (try clear hk); (try clear hi); have hcz38_0 : w37.cell? ⟨gb329, 0, none⟩ = some (.string a0_0) := (blk_cell BK329.out 0).trans rfl; have hcz38_1 : w37.cell? ⟨gb329, 1, none⟩ = some (.string a0_1) := (blk_cell BK329.out 1).trans rfl; have hfz38_0 := blk_frozen BK329.out 0; have hfz38_1 := blk_frozen BK329.out 1)); try go_wp2_with (first | ((with_reducible refine gate_dst (N := 2) rfl ?_); (try (refine gate_guard (by rfl) ?_; dsimp only)); refine box_event ?hg (N := 2) ?hd (cs := #[.string a0_0, .string a0_1]) (t := 38) ?hr ?_; (case hd => rfl); (case hg => rfl); (case hr => first | (go_simp; done) | (go_simp; rfl)); intro gb329 hg w35 hbox hb; have n0_ := Aside0.mk (below_step (by repeat (first | (with_reducible first | exact HB.out | apply below_alloc | apply pw_below_drewN | apply below_drew1) | exact HB.out)) hb); have n1_ := Aside0.mk (hbox); have n2_ := Aside0.mk ((by rw [hg]; exact (below_size (by repeat (first | (with_reducible first | exact HB.out | apply below_alloc | apply pw_below_drewN | apply below_drew1) | exact HB.out))) : w.heap.size ≤ gb329)); have n3_ := Aside0.mk ((by rw [hg]; exact (below_size (by repeat (first | (with_reducible first | exact HB.out | apply below_alloc | apply pw_below_drewN | apply below_drew1) | exact HB.out))) : w.heap.size ≤ gb329)); clear HB; have HB := n0_; have BK329 := n1_; have GW329 := n2_; have GE329 := n3_; clear n0_ n1_ n2_ n3_; clear hb hbox hg; have hcz36_0 : w35.cell? ⟨gb329, 0, none⟩ = some (.string a0_0) := (blk_cell BK329.out 0).trans rfl; have hcz36_1 : w35.cell? ⟨gb329, 1, none⟩ = some (.string a0_1) := (blk_cell BK329.out 1).trans rfl; have hfz36_0 := blk_frozen BK329.out 0; have hfz36_1 := blk_frozen BK329.out 1) | (go_at_call 45; (with_reducible refine (impl_CompareVersions.calls k a1 a0_1 t330 _ A3.out).mono ?_); rintro e w37 ⟨rfl, hb⟩; have n0_ := Aside0.mk (blk_below (g := gb329) (o := .cells #[.string a0_0, .string a0_1] 38 (0, 0)) (by (with_reducible repeat (first | refine blk_drewN ?_ _ | refine blk_drew ?_ | refine blk_alloc ?_ _)); exact BK329.out) hb); have n1_ := Aside0.mk (below_step (by repeat (first | (with_reducible first | exact HB.out | apply below_alloc | apply pw_below_drewN | apply below_drew1 | refine below_set ?_ GE329.out) | exact HB.out)) hb); clear BK329; clear HB; have BK329 := n0_; have HB := n1_; clear n0_ n1_; (try clear hb); (try clear hb2); (try clear hk); (try clear hi); have hcz38_0 : w37.cell? ⟨gb329, 0, none⟩ = some (.string a0_0) := (blk_cell BK329.out 0).trans rfl; have hcz38_1 : w37.cell? ⟨gb329, 1, none⟩ = some (.string a0_1) := (blk_cell BK329.out 1).trans rfl; have hfz38_0 := blk_frozen BK329.out 0; have hfz38_1 := blk_frozen BK329.out 1)))
                go_ret
                exact ⟨by first | rfl | (simp [errW_none, errW_some] <;> rfl) | (simp [*, errW_none, errW_some] <;> rfl), by repeat (first | (with_reducible first | exact HB.out | apply below_alloc | apply pw_below_drewN | apply below_drew1 | refine below_set ?_ GE329.out) | exact HB.out)⟩
              · rw [if_neg c34] at H
                have c34b0 : (a0_0.toList == ([60, 61] : List UInt8)) = false := beq_eq_false_iff_ne.mpr c34
                have c34b1 : (a0_0.toList != ([60, 61] : List UInt8)) = true := bne_iff_ne.mpr c34
                replace H := Option.bind_eq_some_iff.mp H
                obtain ⟨⟨t331, t332⟩, A390, H⟩ := H
                replace H : ((impl_parts.f k a0_1).bind fun bt335 => (if t330 < 0 then (impl_meets.j0 k t331 bt335.1 true a0_0 a0_1) else (if 0 < (t331.length : Int) then (if 0 < (bt335.1.length : Int) then (impl_meets.j0 k t331 bt335.1 (!(((rd_T67 t331 0).f0) == ((rd_T67 bt335.1 0).f0)) || (!((((rd_T67 t331 0).f1).toList) == (((rd_T67 bt335.1 0).f1).toList)))) a0_0 a0_1) else (none)) else (none)))) = some r := H
                have A39 := Aside0.mk A390
                clear A390
                replace H := Option.bind_eq_some_iff.mp H
                obtain ⟨⟨t335, t336⟩, A400, H⟩ := H
                replace H : (if t330 < 0 then (impl_meets.j0 k t331 t335 true a0_0 a0_1) else (if 0 < (t331.length : Int) then (if 0 < (t335.length : Int) then (impl_meets.j0 k t331 t335 (!(((rd_T67 t331 0).f0) == ((rd_T67 t335 0).f0)) || (!((((rd_T67 t331 0).f1).toList) == (((rd_T67 t335 0).f1).toList)))) a0_0 a0_1) else (none)) else (none))) = some r := H
                have A40 := Aside0.mk A400
                clear A400
                have HC41 := Aside0.mk H
                clear H
                go_enter Tryd.func30, Tryd.ntmps30
                go_upto_region 19 with (first | ((with_reducible refine gate_dst (N := 2) rfl ?_); (try (refine gate_guard (by rfl) ?_; dsimp only)); refine box_event ?hg (N := 2) ?hd (cs := #[.string a0_0, .string a0_1]) (t := 38) ?hr ?_; (case hd => rfl); (case hg => rfl); (case hr => first | (go_simp; done) | (go_simp; rfl)); intro gb329 hg w42 hbox hb; have n0_ := Aside0.mk (below_step (by repeat (first | (with_reducible first | exact HB.out | apply below_alloc | apply pw_below_drewN | apply below_drew1) | exact HB.out)) hb); have n1_ := Aside0.mk (hbox); have n2_ := Aside0.mk ((by rw [hg]; exact (below_size (by repeat (first | (with_reducible first | exact HB.out | apply below_alloc | apply pw_below_drewN | apply below_drew1) | exact HB.out))) : w.heap.size ≤ gb329)); have n3_ := Aside0.mk ((by rw [hg]; exact (below_size (by repeat (first | (with_reducible first | exact HB.out | apply below_alloc | apply pw_below_drewN | apply below_drew1) | exact HB.out))) : w.heap.size ≤ gb329)); clear HB; have HB := n0_; have BK329 := n1_; have GW329 := n2_; have GE329 := n3_; clear n0_ n1_ n2_ n3_; clear hb hbox hg; have hcz43_0 : w42.cell? ⟨gb329, 0, none⟩ = some (.string a0_0) := (blk_cell BK329.out 0).trans rfl; have hcz43_1 : w42.cell? ⟨gb329, 1, none⟩ = some (.string a0_1) := (blk_cell BK329.out 1).trans rfl; have hfz43_0 := blk_frozen BK329.out 0; have hfz43_1 := blk_frozen BK329.out 1) | (go_at_call 45; (with_reducible refine (impl_CompareVersions.calls k a1 a0_1 t330 _ A3.out).mono ?_); rintro e w44 ⟨rfl, hb⟩; have n0_ := Aside0.mk (blk_below (g := gb329) (o := .cells #[.string a0_0, .string a0_1] 38 (0, 0)) (by (with_reducible repeat (first | refine blk_drewN ?_ _ | refine blk_drew ?_ | refine blk_alloc ?_ _)); exact BK329.out) hb); have n1_ := Aside0.mk (below_step (by repeat (first | (with_reducible first | exact HB.out | apply below_alloc | apply pw_below_drewN | apply below_drew1 | refine below_set ?_ GE329.out) | exact HB.out)) hb); clear BK329; clear HB; have BK329 := n0_; have HB := n1_; clear n0_ n1_; (try clear hb); (try clear hb2); (try clear hk); (try clear hi); have hcz45_0 : w44.cell? ⟨gb329, 0, none⟩ = some (.string a0_0) := (blk_cell BK329.out 0).trans rfl; have hcz45_1 : w44.cell? ⟨gb329, 1, none⟩ = some (.string a0_1) := (blk_cell BK329.out 1).trans rfl; have hfz45_0 := blk_frozen BK329.out 0; have hfz45_1 := blk_frozen BK329.out 1) | (go_at_call 38; (with_reducible refine (impl_parts.calls k a1 t331 t332 _ A39.out).mono ?_); rintro e w46 ⟨v333, rfl, ho0, hb⟩; have n0_ := Aside0.mk (Kd.R_lower ho0 (below_size (by repeat (first | (with_reducible first | exact HB.out | apply below_alloc | apply pw_below_drewN | apply below_drew1 | refine below_set ?_ GE329.out) | exact HB.out)))); have n1_ := Aside0.mk (blk_below (g := gb329) (o := .cells #[.string a0_0, .string a0_1] 38 (0, 0)) (by (with_reducible repeat (first | refine blk_drewN ?_ _ | refine blk_drew ?_ | refine blk_alloc ?_ _)); exact BK329.out) hb); have n2_ := Aside0.mk (below_step (by repeat (first | (with_reducible first | exact HB.out | apply below_alloc | apply pw_below_drewN | apply below_drew1 | refine below_set ?_ GE329.out) | exact HB.out)) hb); clear BK329; clear HB; have HO334 := n0_; have BK329 := n1_; have HB := n2_; clear n0_ n1_ n2_; (try clear hb); (try clear hb2); (try clear hk); (try clear hi); (try clear ho0); have hcz47_0 : w46.cell? ⟨gb329, 0, none⟩ = some (.string a0_0) := (blk_cell BK329.out 0).trans rfl; have hcz47_1 : w46.cell? ⟨gb329, 1, none⟩ = some (.string a0_1) := (blk_cell BK329.out 1).trans rfl; have hfz47_0 := blk_frozen BK329.out 0; have hfz47_1 := blk_frozen BK329.out 1) | (go_at_call 38; (with_reducible refine (impl_parts.calls k a0_1 t335 t336 _ A40.out).mono ?_); rintro e w48 ⟨v337, rfl, ho0, hb⟩; have n0_ := Aside0.mk (Kd.R_elder' (by (with_reducible repeat (first | apply Kd.R_alloc | apply Kd.R_drewN | apply Kd.R_drew)); exact HO334.out) (Kd.R_base ho0) hb); have n1_ := Aside0.mk (Kd.R_lower (Kd.R_new' ho0 (Kd.R_lt (by (with_reducible repeat (first | apply Kd.R_alloc | apply Kd.R_drewN | apply Kd.R_drew)); exact HO334.out))) (below_size (by repeat (first | (with_reducible first | exact HB.out | apply below_alloc | apply pw_below_drewN | apply below_drew1 | refine below_set ?_ GE329.out) | exact HB.out)))); have n2_ := Aside0.mk (blk_below (g := gb329) (o := .cells #[.string a0_0, .string a0_1] 38 (0, 0)) (by (with_reducible repeat (first | refine blk_drewN ?_ _ | refine blk_drew ?_ | refine blk_alloc ?_ _)); exact BK329.out) hb); have n3_ := Aside0.mk (below_step (by repeat (first | (with_reducible first | exact HB.out | apply below_alloc | apply pw_below_drewN | apply below_drew1 | refine below_set ?_ GE329.out) | exact HB.out)) hb); clear HO334; clear BK329; clear HB; have HO334 := n0_; have HO338 := n1_; have BK329 := n2_; have HB := n3_; clear n0_ n1_ n2_ n3_; (try clear hb); (try clear hb2); (try clear hk); (try clear hi); (try clear ho0)))
                repeat (go_quiet (first | ((with_reducible refine gate_dst (N := 2) rfl ?_); (try (refine gate_guard (by rfl) ?_; dsimp only)); refine box_event ?hg (N := 2) ?hd (cs := #[.string a0_0, .string a0_1]) (t := 38) ?hr ?_; (case hd => rfl); (case hg => rfl); (case hr => first | (go_simp; done) | (go_simp; rfl)); intro gb329 hg w42 hbox hb; have n0_ := Aside0.mk (below_step (by repeat (first | (with_reducible first | exact HB.out | apply below_alloc | apply pw_below_drewN | apply below_drew1) | exact HB.out)) hb); have n1_ := Aside0.mk (hbox); have n2_ := Aside0.mk ((by rw [hg]; exact (below_size (by repeat (first | (with_reducible first | exact HB.out | apply below_alloc | apply pw_below_drewN | apply below_drew1) | exact HB.out))) : w.heap.size ≤ gb329)); have n3_ := Aside0.mk ((by rw [hg]; exact (below_size (by repeat (first | (with_reducible first | exact HB.out | apply below_alloc | apply pw_below_drewN | apply below_drew1) | exact HB.out))) : w.heap.size ≤ gb329)); clear HB; have HB := n0_; have BK329 := n1_; have GW329 := n2_; have GE329 := n3_; clear n0_ n1_ n2_ n3_; clear hb hbox hg; have hcz43_0 : w42.cell? ⟨gb329, 0, none⟩ = some (.string a0_0) := (blk_cell BK329.out 0).trans rfl; have hcz43_1 : w42.cell? ⟨gb329, 1, none⟩ = some (.string a0_1) := (blk_cell BK329.out 1).trans rfl; have hfz43_0 := blk_frozen BK329.out 0; have hfz43_1 := blk_frozen BK329.out 1) | (go_at_call 45; (with_reducible refine (impl_CompareVersions.calls k a1 a0_1 t330 _ A3.out).mono ?_); rintro e w44 ⟨rfl, hb⟩; have n0_ := Aside0.mk (blk_below (g := gb329) (o := .cells #[.string a0_0, .string a0_1] 38 (0, 0)) (by (with_reducible repeat (first | refine blk_drewN ?_ _ | refine blk_drew ?_ | refine blk_alloc ?_ _)); exact BK329.out) hb); have n1_ := Aside0.mk (below_step (by repeat (first | (with_reducible first | exact HB.out | apply below_alloc | apply pw_below_drewN | apply below_drew1 | refine below_set ?_ GE329.out) | exact HB.out)) hb); clear BK329; clear HB; have BK329 := n0_; have HB := n1_; clear n0_ n1_; (try clear hb); (try clear hb2); (try clear hk); (try clear hi); have hcz45_0 : w44.cell? ⟨gb329, 0, none⟩ = some (.string a0_0) := (blk_cell BK329.out 0).trans rfl; have hcz45_1 : w44.cell? ⟨gb329, 1, none⟩ = some (.string a0_1) := (blk_cell BK329.out 1).trans rfl; have hfz45_0 := blk_frozen BK329.out 0; have hfz45_1 := blk_frozen BK329.out 1) | (go_at_call 38; (with_reducible refine (impl_parts.calls k a1 t331 t332 _ A39.out).mono ?_); rintro e w46 ⟨v333, rfl, ho0, hb⟩; have n0_ := Aside0.mk (Kd.R_lower ho0 (below_size (by repeat (first | (with_reducible first | exact HB.out | apply below_alloc | apply pw_below_drewN | apply below_drew1 | refine below_set ?_ GE329.out) | exact HB.out)))); have n1_ := Aside0.mk (blk_below (g := gb329) (o := .cells #[.string a0_0, .string a0_1] 38 (0, 0)) (by (with_reducible repeat (first | refine blk_drewN ?_ _ | refine blk_drew ?_ | refine blk_alloc ?_ _)); exact BK329.out) hb); have n2_ := Aside0.mk (below_step (by repeat (first | (with_reducible first | exact HB.out | apply below_alloc | apply pw_below_drewN | apply below_drew1 | refine below_set ?_ GE329.out) | exact HB.out)) hb); clear BK329; clear HB; have HO334 := n0_; have BK329 := n1_; have HB := n2_; clear n0_ n1_ n2_; (try clear hb); (try clear hb2); (try clear hk); (try clear hi); (try clear ho0); have hcz47_0 : w46.cell? ⟨gb329, 0, none⟩ = some (.string a0_0) := (blk_cell BK329.out 0).trans rfl; have hcz47_1 : w46.cell? ⟨gb329, 1, none⟩ = some (.string a0_1) := (blk_cell BK329.out 1).trans rfl; have hfz47_0 := blk_frozen BK329.out 0; have hfz47_1 := blk_frozen BK329.out 1) | (go_at_call 38; (with_reducible refine (impl_parts.calls k a0_1 t335 t336 _ A40.out).mono ?_); rintro e w48 ⟨v337, rfl, ho0, hb⟩; have n0_ := Aside0.mk (Kd.R_elder' (by (with_reducible repeat (first | apply Kd.R_alloc | apply Kd.R_drewN | apply Kd.R_drew)); exact HO334.out) (Kd.R_base ho0) hb); have n1_ := Aside0.mk (Kd.R_lower (Kd.R_new' ho0 (Kd.R_lt (by (with_reducible repeat (first | apply Kd.R_alloc | apply Kd.R_drewN | apply Kd.R_drew)); exact HO334.out))) (below_size (by repeat (first | (with_reducible first | exact HB.out | apply below_alloc | apply pw_below_drewN | apply below_drew1 | refine below_set ?_ GE329.out) | exact HB.out)))); have n2_ := Aside0.mk (blk_below (g := gb329) (o := .cells #[.string a0_0, .string a0_1] 38 (0, 0)) (by (with_reducible repeat (first | refine blk_drewN ?_ _ | refine blk_drew ?_ | refine blk_alloc ?_ _)); exact BK329.out) hb); have n3_ := Aside0.mk (below_step (by repeat (first | (with_reducible first | exact HB.out | apply below_alloc | apply pw_below_drewN | apply below_drew1 | refine below_set ?_ GE329.out) | exact HB.out)) hb); clear HO334; clear BK329; clear HB; have HO334 := n0_; have HO338 := n1_; have BK329 := n2_; have HB := n3_; clear n0_ n1_ n2_ n3_; (try clear hb); (try clear hb2); (try clear hk); (try clear hi); (try clear ho0))); go_upto_region 19 with (first | ((with_reducible refine gate_dst (N := 2) rfl ?_); (try (refine gate_guard (by rfl) ?_; dsimp only)); refine box_event ?hg (N := 2) ?hd (cs := #[.string a0_0, .string a0_1]) (t := 38) ?hr ?_; (case hd => rfl); (case hg => rfl); (case hr => first | (go_simp; done) | (go_simp; rfl)); intro gb329 hg w42 hbox hb; have n0_ := Aside0.mk (below_step (by repeat (first | (with_reducible first | exact HB.out | apply below_alloc | apply pw_below_drewN | apply below_drew1) | exact HB.out)) hb); have n1_ := Aside0.mk (hbox); have n2_ := Aside0.mk ((by rw [hg]; exact (below_size (by repeat (first | (with_reducible first | exact HB.out | apply below_alloc | apply pw_below_drewN | apply below_drew1) | exact HB.out))) : w.heap.size ≤ gb329)); have n3_ := Aside0.mk ((by rw [hg]; exact (below_size (by repeat (first | (with_reducible first | exact HB.out | apply below_alloc | apply pw_below_drewN | apply below_drew1) | exact HB.out))) : w.heap.size ≤ gb329)); clear HB; have HB := n0_; have BK329 := n1_; have GW329 := n2_; have GE329 := n3_; clear n0_ n1_ n2_ n3_; clear hb hbox hg; have hcz43_0 : w42.cell? ⟨gb329, 0, none⟩ = some (.string a0_0) := (blk_cell BK329.out 0).trans rfl; have hcz43_1 : w42.cell? ⟨gb329, 1, none⟩ = some (.string a0_1) := (blk_cell BK329.out 1).trans rfl; have hfz43_0 := blk_frozen BK329.out 0; have hfz43_1 := blk_frozen BK329.out 1) | (go_at_call 45; (with_reducible refine (impl_CompareVersions.calls k a1 a0_1 t330 _ A3.out).mono ?_); rintro e w44 ⟨rfl, hb⟩; have n0_ := Aside0.mk (blk_below (g := gb329) (o := .cells #[.string a0_0, .string a0_1] 38 (0, 0)) (by (with_reducible repeat (first | refine blk_drewN ?_ _ | refine blk_drew ?_ | refine blk_alloc ?_ _)); exact BK329.out) hb); have n1_ := Aside0.mk (below_step (by repeat (first | (with_reducible first | exact HB.out | apply below_alloc | apply pw_below_drewN | apply below_drew1 | refine below_set ?_ GE329.out) | exact HB.out)) hb); clear BK329; clear HB; have BK329 := n0_; have HB := n1_; clear n0_ n1_; (try clear hb); (try clear hb2); (try clear hk); (try clear hi); have hcz45_0 : w44.cell? ⟨gb329, 0, none⟩ = some (.string a0_0) := (blk_cell BK329.out 0).trans rfl; have hcz45_1 : w44.cell? ⟨gb329, 1, none⟩ = some (.string a0_1) := (blk_cell BK329.out 1).trans rfl; have hfz45_0 := blk_frozen BK329.out 0; have hfz45_1 := blk_frozen BK329.out 1) | (go_at_call 38; (with_reducible refine (impl_parts.calls k a1 t331 t332 _ A39.out).mono ?_); rintro e w46 ⟨v333, rfl, ho0, hb⟩; have n0_ := Aside0.mk (Kd.R_lower ho0 (below_size (by repeat (first | (with_reducible first | exact HB.out | apply below_alloc | apply pw_below_drewN | apply below_drew1 | refine below_set ?_ GE329.out) | exact HB.out)))); have n1_ := Aside0.mk (blk_below (g := gb329) (o := .cells #[.string a0_0, .string a0_1] 38 (0, 0)) (by (with_reducible repeat (first | refine blk_drewN ?_ _ | refine blk_drew ?_ | refine blk_alloc ?_ _)); exact BK329.out) hb); have n2_ := Aside0.mk (below_step (by repeat (first | (with_reducible first | exact HB.out | apply below_alloc | apply pw_below_drewN | apply below_drew1 | refine below_set ?_ GE329.out) | exact HB.out)) hb); clear BK329; clear HB; have HO334 := n0_; have BK329 := n1_; have HB := n2_; clear n0_ n1_ n2_; (try clear hb); (try clear hb2); (try clear hk); (try clear hi); (try clear ho0); have hcz47_0 : w46.cell? ⟨gb329, 0, none⟩ = some (.string a0_0) := (blk_cell BK329.out 0).trans rfl; have hcz47_1 : w46.cell? ⟨gb329, 1, none⟩ = some (.string a0_1) := (blk_cell BK329.out 1).trans rfl; have hfz47_0 := blk_frozen BK329.out 0; have hfz47_1 := blk_frozen BK329.out 1) | (go_at_call 38; (with_reducible refine (impl_parts.calls k a0_1 t335 t336 _ A40.out).mono ?_); rintro e w48 ⟨v337, rfl, ho0, hb⟩; have n0_ := Aside0.mk (Kd.R_elder' (by (with_reducible repeat (first | apply Kd.R_alloc | apply Kd.R_drewN | apply Kd.R_drew)); exact HO334.out) (Kd.R_base ho0) hb); have n1_ := Aside0.mk (Kd.R_lower (Kd.R_new' ho0 (Kd.R_lt (by (with_reducible repeat (first | apply Kd.R_alloc | apply Kd.R_drewN | apply Kd.R_drew)); exact HO334.out))) (below_size (by repeat (first | (with_reducible first | exact HB.out | apply below_alloc | apply pw_below_drewN | apply below_drew1 | refine below_set ?_ GE329.out) | exact HB.out)))); have n2_ := Aside0.mk (blk_below (g := gb329) (o := .cells #[.string a0_0, .string a0_1] 38 (0, 0)) (by (with_reducible repeat (first | refine blk_drewN ?_ _ | refine blk_drew ?_ | refine blk_alloc ?_ _)); exact BK329.out) hb); have n3_ := Aside0.mk (below_step (by repeat (first | (with_reducible first | exact HB.out | apply below_alloc | apply pw_below_drewN | apply below_drew1 | refine below_set ?_ GE329.out) | exact HB.out)) hb); clear HO334; clear BK329; clear HB; have HO334 := n0_; have HO338 := n1_; have BK329 := n2_; have HB := n3_; clear n0_ n1_ n2_ n3_; (try clear hb); (try clear hb2); (try clear hk); (try clear hi); (try clear ho0))))
                (try simp only [Act.put, List.setIfInBounds_toArray, List.set_cons_zero, List.set_cons_succ])
                go_cut [63] (fun v63 wc => ∃ (kq : Nat) (x63_40 : Bool), v63 = .bool x63_40 ∧ Aside0 (impl_meets.j0 kq t331 t335 x63_40 a0_0 a0_1 = some r) ∧ Aside0 (kq ≤ k) ∧ Aside0 (Kd.R k67 67 wc w.heap.size (fun k_ => some k_ ≠ (v337 : Value).ownBlock) v333 t331) ∧ Aside0 (Kd.R k67 67 wc w.heap.size (fun k_ => some k_ ≠ (v333 : Value).ownBlock) v337 t335) ∧ Aside0 (wc.heap[gb329]? = some (.cells #[.string a0_0, .string a0_1] 38 (0, 0))) ∧ Aside0 (Below w.heap.size w wc))
                case first =>
                  have H := HC41.out
                  clear HC41
                  by_cases c49 : t330 < 0
                  · rw [if_pos c49] at H
                    have c49b0 : decide (t330 < 0) = true := decide_eq_true c49
                    clear c49
                    (first | rw [c49b0] | (simp only [i64_w, i32_w]; rw [c49b0]) | skip)
                    have H' := Aside0.mk H
                    clear H
                    go_wp2
                    repeat (go_quiet (fail); try go_wp2)
                    go_meet
                    case rel => exact ⟨_, (true), (by first | rfl | (simp; done) | (simp [*]; done)), H', ⟨by first | omega | exact Nat.le_refl _⟩, ⟨by (with_reducible repeat (first | apply Kd.R_alloc | apply Kd.R_drewN | apply Kd.R_drew)); exact Kd.R_mono HO334.out (fun _ hk => hk.2)⟩, ⟨by (with_reducible repeat (first | apply Kd.R_alloc | apply Kd.R_drewN | apply Kd.R_drew)); exact Kd.R_mono HO338.out (fun _ hk => hk.2)⟩, ⟨by (with_reducible repeat (first | refine blk_drewN ?_ _ | refine blk_drew ?_ | refine blk_alloc ?_ _)); exact BK329.out⟩, ⟨by repeat (first | (with_reducible first | exact HB.out | apply below_alloc | apply pw_below_drewN | apply below_drew1 | refine below_set ?_ GE329.out) | exact HB.out)⟩⟩
                  · rw [if_neg c49] at H
                    have c49b0 : decide (t330 < 0) = false := decide_eq_false c49
                    clear c49
                    (first | rw [c49b0] | (simp only [i64_w, i32_w]; rw [c49b0]) | skip)
                    by_cases c50 : 0 < (t331.length : Int)
                    · rw [if_pos c50] at H
                      have c50b0 : decide (0 < (t331.length : Int)) = true := decide_eq_true c50
                      have c50b1 : decide (0 < t331.length) = true := decide_eq_true (by omega)
                      clear c50
                      by_cases c51 : 0 < (t335.length : Int)
                      · rw [if_pos c51] at H
                        have c51b0 : decide (0 < (t335.length : Int)) = true := decide_eq_true c51
                        have c51b1 : decide (0 < t335.length) = true := decide_eq_true (by omega)
                        clear c51
                        have H' := Aside0.mk H
                        clear H
                        obtain ⟨Ao52, co52, eo52⟩ := Kd.R_slice HO334.out
                        subst eo52
                        have p339 : 0 ≤ (0 : Int) := (by omega)
                        have q339 : 0 < (t331.length : Int) := of_decide_eq_true (by first | (with_reducible assumption) | assumption)
                        obtain ⟨ad339, e339, hx339_0, hx339_1⟩ := at_T67 (Kd.R_reads' HO334.out).2.2 0 p339 q339
                        cases e339
                        have qi339 : (0 < t331.length) = True := eq_true (by omega)
                        (try rw [show ((0 : Int)).toNat = 0 from rfl] at hx339_0)
                        (try rw [show 0 * 2 = 0 from rfl] at hx339_0)
                        (try rw [Addr.add_zero'] at hx339_0)
                        (try rw [show ((0 : Int)).toNat = 0 from rfl] at hx339_1)
                        (try rw [show 0 * 2 = 0 from rfl] at hx339_1)
                        (try rw [Addr.add_zero'] at hx339_1)
                        replace p339 := eq_true p339
                        replace q339 := eq_true q339
                        obtain ⟨Ao53, co53, eo53⟩ := Kd.R_slice HO338.out
                        subst eo53
                        have p340 : 0 ≤ (0 : Int) := (by omega)
                        have q340 : 0 < (t335.length : Int) := of_decide_eq_true (by first | (with_reducible assumption) | assumption)
                        obtain ⟨ad340, e340, hx340_0, hx340_1⟩ := at_T67 (Kd.R_reads' HO338.out).2.2 0 p340 q340
                        cases e340
                        have qi340 : (0 < t335.length) = True := eq_true (by omega)
                        (try rw [show ((0 : Int)).toNat = 0 from rfl] at hx340_0)
                        (try rw [show 0 * 2 = 0 from rfl] at hx340_0)
                        (try rw [Addr.add_zero'] at hx340_0)
                        (try rw [show ((0 : Int)).toNat = 0 from rfl] at hx340_1)
                        (try rw [show 0 * 2 = 0 from rfl] at hx340_1)
                        (try rw [Addr.add_zero'] at hx340_1)
                        replace p340 := eq_true p340
                        replace q340 := eq_true q340
                        go_wp2
                        repeat (go_quiet (fail); try go_wp2)
                        go_meet
                        case rel => exact ⟨_, ((!(((rd_T67 t331 0).f0) == ((rd_T67 t335 0).f0)) || (!((((rd_T67 t331 0).f1).toList) == (((rd_T67 t335 0).f1).toList))))), (by first | rfl | (simp; done) | (simp [*]; done)), H', ⟨by first | omega | exact Nat.le_refl _⟩, ⟨by (with_reducible repeat (first | apply Kd.R_alloc | apply Kd.R_drewN | apply Kd.R_drew)); exact Kd.R_mono HO334.out (fun _ hk => hk.2)⟩, ⟨by (with_reducible repeat (first | apply Kd.R_alloc | apply Kd.R_drewN | apply Kd.R_drew)); exact Kd.R_mono HO338.out (fun _ hk => hk.2)⟩, ⟨by (with_reducible repeat (first | refine blk_drewN ?_ _ | refine blk_drew ?_ | refine blk_alloc ?_ _)); exact BK329.out⟩, ⟨by repeat (first | (with_reducible first | exact HB.out | apply below_alloc | apply pw_below_drewN | apply below_drew1 | refine below_set ?_ GE329.out) | exact HB.out)⟩⟩
                      · rw [if_neg c51] at H
                        exact absurd H (by simp)
                    · rw [if_neg c50] at H
                      exact absurd H (by simp)
                case rest =>
                  clear HC41
                  try clear c1
                  try clear c2
                  try clear p2
                  try clear c3
                  try clear p3
                  try clear q3
                  try clear hx3
                  try clear qi3
                  try clear c4
                  try clear c4b0
                  try clear c4b1
                  try clear c5
                  try clear c9
                  try clear c9b0
                  try clear c9b1
                  try clear c14
                  try clear c14b0
                  try clear c14b1
                  try clear c19
                  try clear c19b0
                  try clear c19b1
                  try clear c24
                  try clear c24b0
                  try clear c24b1
                  try clear c29
                  try clear c29b0
                  try clear c29b1
                  try clear c30
                  try clear p33
                  try clear q33
                  try clear hx33
                  try clear qi33
                  try clear c34
                  try clear c34b0
                  try clear c34b1
                  try clear p34
                  try clear q34
                  try clear hx34
                  try clear qi34
                  try clear c49
                  try clear c49b0
                  try clear c50
                  try clear c50b0
                  try clear c50b1
                  try clear c51
                  try clear c51b0
                  try clear c51b1
                  try clear hcz11_0
                  try clear hcz11_1
                  try clear hcz13_0
                  try clear hcz13_1
                  try clear hcz16_0
                  try clear hcz16_1
                  try clear hcz18_0
                  try clear hcz18_1
                  try clear hcz21_0
                  try clear hcz21_1
                  try clear hcz23_0
                  try clear hcz23_1
                  try clear hcz26_0
                  try clear hcz26_1
                  try clear hcz28_0
                  try clear hcz28_1
                  try clear hcz31_0
                  try clear hcz31_1
                  try clear hcz33_0
                  try clear hcz33_1
                  try clear hcz36_0
                  try clear hcz36_1
                  try clear hcz38_0
                  try clear hcz38_1
                  try clear hcz43_0
                  try clear hcz43_1
                  try clear hcz45_0
                  try clear hcz45_1
                  try clear hcz47_0
                  try clear hcz47_1
                  try clear hcz6_0
                  try clear hcz6_1
                  try clear hcz8_0
                  try clear hcz8_1
                  try clear hfz11_0
                  try clear hfz11_1
                  try clear hfz13_0
                  try clear hfz13_1
                  try clear hfz16_0
                  try clear hfz16_1
                  try clear hfz18_0
                  try clear hfz18_1
                  try clear hfz21_0
                  try clear hfz21_1
                  try clear hfz23_0
                  try clear hfz23_1
                  try clear hfz26_0
                  try clear hfz26_1
                  try clear hfz28_0
                  try clear hfz28_1
                  try clear hfz31_0
                  try clear hfz31_1
                  try clear hfz33_0
                  try clear hfz33_1
                  try clear hfz36_0
                  try clear hfz36_1
                  try clear hfz38_0
                  try clear hfz38_1
                  try clear hfz43_0
                  try clear hfz43_1
                  try clear hfz45_0
                  try clear hfz45_1
                  try clear hfz47_0
                  try clear hfz47_1
                  try clear hfz6_0
                  try clear hfz6_1
                  try clear hfz8_0
                  try clear hfz8_1
                  try clear hx339_0
                  try clear hx339_1
                  try clear hx340_0
                  try clear hx340_1
                  try clear p339
                  try clear p340
                  try clear q339
                  try clear q340
                  obtain ⟨kq, x63_40, rfl, HA, HJ40, HO_6, HO_8, BK329, HB⟩ := hcut
                  cases kq with
                  | zero => exact absurd HA.out (by simp [impl_meets.j0])
                  | succ kj40 =>
                    have H := HA.out
                    clear HA
                    simp only [impl_meets.j0] at H
                    by_cases c54 : x63_40 = true
                    · subst c54
                      have H1 : (some false) = some r := by rw [if_pos rfl] at H; exact H
                      clear H
                      have H := H1
                      clear H1
                      obtain rfl := Option.some.inj H
                      go_wp2
                      repeat (go_quiet (fail); try go_wp2)
                      go_ret
                      exact ⟨by first | rfl | (simp [errW_none, errW_some] <;> rfl) | (simp [*, errW_none, errW_some] <;> rfl), by repeat (first | (with_reducible first | exact HB.out | apply below_alloc | apply pw_below_drewN | apply below_drew1 | refine below_set ?_ GE329.out) | exact HB.out)⟩
                    · replace c54 := Bool.eq_false_iff.mpr c54
                      subst c54
                      have H1 : (if a0_0.toList = ([94] : List UInt8) then (some true) else (if (t331.length : Int) < 2 then (if (t335.length : Int) < 2 then (some true) else (if (t331.length : Int) ≥ 2 then (if (t335.length : Int) ≥ 2 then (if 1 < (t331.length : Int) then (if 1 < (t335.length : Int) then (some (((rd_T67 t331 1).f0) == ((rd_T67 t335 1).f0) && ((((rd_T67 t331 1).f1).toList) == (((rd_T67 t335 1).f1).toList)))) else (none)) else (none)) else (some false)) else (some false))) else (if (t331.length : Int) ≥ 2 then (if (t335.length : Int) ≥ 2 then (if 1 < (t331.length : Int) then (if 1 < (t335.length : Int) then (some (((rd_T67 t331 1).f0) == ((rd_T67 t335 1).f0) && ((((rd_T67 t331 1).f1).toList) == (((rd_T67 t335 1).f1).toList)))) else (none)) else (none)) else (some false)) else (some false)))) = some r := by rw [if_neg (show ¬ (false = true) by decide)] at H; exact H
                      clear H
                      have H := H1
                      clear H1
                      by_cases c55 : a0_0.toList = ([94] : List UInt8)
                      · rw [if_pos c55] at H
                        have c55b0 : (a0_0.toList == ([94] : List UInt8)) = true := beq_iff_eq.mpr c55
                        have c55b1 : (a0_0.toList != ([94] : List UInt8)) = false := bne_eq_false_iff_eq.mpr c55
                        clear c55
                        obtain rfl := Option.some.inj H
                        have hcz56_0 : wc.cell? ⟨gb329, 0, none⟩ = some (.string a0_0) := (blk_cell BK329.out 0).trans rfl
                        have hcz56_1 : wc.cell? ⟨gb329, 1, none⟩ = some (.string a0_1) := (blk_cell BK329.out 1).trans rfl
                        have hfz56_0 := blk_frozen BK329.out 0
                        have hfz56_1 := blk_frozen BK329.out 1
                        go_wp2
                        repeat (go_quiet (fail); try go_wp2)
                        go_ret
                        exact ⟨by first | rfl | (simp [errW_none, errW_some] <;> rfl) | (simp [*, errW_none, errW_some] <;> rfl), by repeat (first | (with_reducible first | exact HB.out | apply below_alloc | apply pw_below_drewN | apply below_drew1 | refine below_set ?_ GE329.out) | exact HB.out)⟩
                      · rw [if_neg c55] at H
                        have c55b0 : (a0_0.toList == ([94] : List UInt8)) = false := beq_eq_false_iff_ne.mpr c55
                        have c55b1 : (a0_0.toList != ([94] : List UInt8)) = true := bne_iff_ne.mpr c55
                        by_cases c57 : (t331.length : Int) < 2
                        · rw [if_pos c57] at H
                          have c57b0 : decide ((t331.length : Int) < 2) = true := decide_eq_true c57
                          have c57b1 : decide (t331.length < 2) = true := decide_eq_true (by omega)
                          clear c57
                          by_cases c58 : (t335.length : Int) < 2
                          · rw [if_pos c58] at H
                            have c58b0 : decide ((t335.length : Int) < 2) = true := decide_eq_true c58
                            have c58b1 : decide (t335.length < 2) = true := decide_eq_true (by omega)
                            clear c58
                            obtain rfl := Option.some.inj H
                            have hcz59_0 : wc.cell? ⟨gb329, 0, none⟩ = some (.string a0_0) := (blk_cell BK329.out 0).trans rfl
                            have hcz59_1 : wc.cell? ⟨gb329, 1, none⟩ = some (.string a0_1) := (blk_cell BK329.out 1).trans rfl
                            have hfz59_0 := blk_frozen BK329.out 0
                            have hfz59_1 := blk_frozen BK329.out 1
                            obtain ⟨Ao60, co60, eo60⟩ := Kd.R_slice HO_6.out
                            subst eo60
                            obtain ⟨Ao61, co61, eo61⟩ := Kd.R_slice HO_8.out
                            subst eo61
                            go_wp2
                            repeat (go_quiet (fail); try go_wp2)
                            go_ret
                            exact ⟨by first | rfl | (simp [errW_none, errW_some] <;> rfl) | (simp [*, errW_none, errW_some] <;> rfl), by repeat (first | (with_reducible first | exact HB.out | apply below_alloc | apply pw_below_drewN | apply below_drew1 | refine below_set ?_ GE329.out) | exact HB.out)⟩
                          · rw [if_neg c58] at H
                            have c58b0 : decide ((t335.length : Int) < 2) = false := decide_eq_false c58
                            have c58b1 : decide (t335.length < 2) = false := decide_eq_false (by omega)
                            clear c58
                            by_cases c62 : (t331.length : Int) ≥ 2
                            · rw [if_pos c62] at H
                              have c62b0 : decide (2 ≤ (t331.length : Int)) = true := decide_eq_true c62
                              have c62b1 : decide (2 ≤ t331.length) = true := decide_eq_true (by omega)
                              clear c62
                              by_cases c63 : (t335.length : Int) ≥ 2
                              · rw [if_pos c63] at H
                                have c63b0 : decide (2 ≤ (t335.length : Int)) = true := decide_eq_true c63
                                have c63b1 : decide (2 ≤ t335.length) = true := decide_eq_true (by omega)
                                clear c63
                                by_cases c64 : 1 < (t331.length : Int)
                                · rw [if_pos c64] at H
                                  have c64b0 : decide (1 < (t331.length : Int)) = true := decide_eq_true c64
                                  have c64b1 : decide (1 < t331.length) = true := decide_eq_true (by omega)
                                  clear c64
                                  by_cases c65 : 1 < (t335.length : Int)
                                  · rw [if_pos c65] at H
                                    have c65b0 : decide (1 < (t335.length : Int)) = true := decide_eq_true c65
                                    have c65b1 : decide (1 < t335.length) = true := decide_eq_true (by omega)
                                    clear c65
                                    obtain rfl := Option.some.inj H
                                    have hcz66_0 : wc.cell? ⟨gb329, 0, none⟩ = some (.string a0_0) := (blk_cell BK329.out 0).trans rfl
                                    have hcz66_1 : wc.cell? ⟨gb329, 1, none⟩ = some (.string a0_1) := (blk_cell BK329.out 1).trans rfl
                                    have hfz66_0 := blk_frozen BK329.out 0
                                    have hfz66_1 := blk_frozen BK329.out 1
                                    obtain ⟨Ao67, co67, eo67⟩ := Kd.R_slice HO_6.out
                                    subst eo67
                                    obtain ⟨Ao68, co68, eo68⟩ := Kd.R_slice HO_8.out
                                    subst eo68
                                    have p341 : 0 ≤ (1 : Int) := (by omega)
                                    have q341 : 1 < (t331.length : Int) := of_decide_eq_true (by first | (with_reducible assumption) | assumption)
                                    obtain ⟨ad341, e341, hx341_0, hx341_1⟩ := at_T67 (Kd.R_reads' HO_6.out).2.2 1 p341 q341
                                    cases e341
                                    (try simp only [show (1 : Int).toNat = 1 from rfl, Nat.reduceMul, Nat.reduceEqDiff, Go.Addr.add, ↓reduceIte] at hx341_0)
                                    (try simp only [show (1 : Int).toNat = 1 from rfl, Nat.reduceMul, Nat.reduceEqDiff, Go.Addr.add, ↓reduceIte] at hx341_1)
                                    have qi341 : (1 < t331.length) = True := eq_true (by omega)
                                    (try rw [show ((1 : Int)).toNat = 1 from rfl] at hx341_0)
                                    (try rw [show 1 * 2 = 2 from rfl] at hx341_0)
                                    (try rw [show ((1 : Int)).toNat = 1 from rfl] at hx341_1)
                                    (try rw [show 1 * 2 = 2 from rfl] at hx341_1)
                                    replace p341 := eq_true p341
                                    replace q341 := eq_true q341
                                    have p342 : 0 ≤ (1 : Int) := (by omega)
                                    have q342 : 1 < (t335.length : Int) := of_decide_eq_true (by first | (with_reducible assumption) | assumption)
                                    obtain ⟨ad342, e342, hx342_0, hx342_1⟩ := at_T67 (Kd.R_reads' HO_8.out).2.2 1 p342 q342
                                    cases e342
                                    (try simp only [show (1 : Int).toNat = 1 from rfl, Nat.reduceMul, Nat.reduceEqDiff, Go.Addr.add, ↓reduceIte] at hx342_0)
                                    (try simp only [show (1 : Int).toNat = 1 from rfl, Nat.reduceMul, Nat.reduceEqDiff, Go.Addr.add, ↓reduceIte] at hx342_1)
                                    have qi342 : (1 < t335.length) = True := eq_true (by omega)
                                    (try rw [show ((1 : Int)).toNat = 1 from rfl] at hx342_0)
                                    (try rw [show 1 * 2 = 2 from rfl] at hx342_0)
                                    (try rw [show ((1 : Int)).toNat = 1 from rfl] at hx342_1)
                                    (try rw [show 1 * 2 = 2 from rfl] at hx342_1)
                                    replace p342 := eq_true p342
                                    replace q342 := eq_true q342
                                    go_wp2
                                    repeat (go_quiet (fail); try go_wp2)
                                    go_ret
                                    exact ⟨by first | rfl | (simp [errW_none, errW_some] <;> rfl) | (simp [*, errW_none, errW_some] <;> rfl), by repeat (first | (with_reducible first | exact HB.out | apply below_alloc | apply pw_below_drewN | apply below_drew1 | refine below_set ?_ GE329.out) | exact HB.out)⟩
                                  · rw [if_neg c65] at H
                                    exact absurd H (by simp)
                                · rw [if_neg c64] at H
                                  exact absurd H (by simp)
                              · rw [if_neg c63] at H
                                have c63b0 : decide (2 ≤ (t335.length : Int)) = false := decide_eq_false c63
                                have c63b1 : decide (2 ≤ t335.length) = false := decide_eq_false (by omega)
                                clear c63
                                obtain rfl := Option.some.inj H
                                have hcz69_0 : wc.cell? ⟨gb329, 0, none⟩ = some (.string a0_0) := (blk_cell BK329.out 0).trans rfl
                                have hcz69_1 : wc.cell? ⟨gb329, 1, none⟩ = some (.string a0_1) := (blk_cell BK329.out 1).trans rfl
                                have hfz69_0 := blk_frozen BK329.out 0
                                have hfz69_1 := blk_frozen BK329.out 1
                                obtain ⟨Ao70, co70, eo70⟩ := Kd.R_slice HO_6.out
                                subst eo70
                                obtain ⟨Ao71, co71, eo71⟩ := Kd.R_slice HO_8.out
                                subst eo71
                                go_wp2
                                repeat (go_quiet (fail); try go_wp2)
                                go_ret
                                exact ⟨by first | rfl | (simp [errW_none, errW_some] <;> rfl) | (simp [*, errW_none, errW_some] <;> rfl), by repeat (first | (with_reducible first | exact HB.out | apply below_alloc | apply pw_below_drewN | apply below_drew1 | refine below_set ?_ GE329.out) | exact HB.out)⟩
                            · rw [if_neg c62] at H
                              have c62b0 : decide (2 ≤ (t331.length : Int)) = false := decide_eq_false c62
                              have c62b1 : decide (2 ≤ t331.length) = false := decide_eq_false (by omega)
                              clear c62
                              obtain rfl := Option.some.inj H
                              have hcz72_0 : wc.cell? ⟨gb329, 0, none⟩ = some (.string a0_0) := (blk_cell BK329.out 0).trans rfl
                              have hcz72_1 : wc.cell? ⟨gb329, 1, none⟩ = some (.string a0_1) := (blk_cell BK329.out 1).trans rfl
                              have hfz72_0 := blk_frozen BK329.out 0
                              have hfz72_1 := blk_frozen BK329.out 1
                              obtain ⟨Ao73, co73, eo73⟩ := Kd.R_slice HO_6.out
                              subst eo73
                              obtain ⟨Ao74, co74, eo74⟩ := Kd.R_slice HO_8.out
                              subst eo74
                              go_wp2
                              repeat (go_quiet (fail); try go_wp2)
                              go_ret
                              exact ⟨by first | rfl | (simp [errW_none, errW_some] <;> rfl) | (simp [*, errW_none, errW_some] <;> rfl), by repeat (first | (with_reducible first | exact HB.out | apply below_alloc | apply pw_below_drewN | apply below_drew1 | refine below_set ?_ GE329.out) | exact HB.out)⟩
                        · rw [if_neg c57] at H
                          have c57b0 : decide ((t331.length : Int) < 2) = false := decide_eq_false c57
                          have c57b1 : decide (t331.length < 2) = false := decide_eq_false (by omega)
                          clear c57
                          by_cases c75 : (t331.length : Int) ≥ 2
                          · rw [if_pos c75] at H
                            have c75b0 : decide (2 ≤ (t331.length : Int)) = true := decide_eq_true c75
                            have c75b1 : decide (2 ≤ t331.length) = true := decide_eq_true (by omega)
                            clear c75
                            by_cases c76 : (t335.length : Int) ≥ 2
                            · rw [if_pos c76] at H
                              have c76b0 : decide (2 ≤ (t335.length : Int)) = true := decide_eq_true c76
                              have c76b1 : decide (2 ≤ t335.length) = true := decide_eq_true (by omega)
                              clear c76
                              by_cases c77 : 1 < (t331.length : Int)
                              · rw [if_pos c77] at H
                                have c77b0 : decide (1 < (t331.length : Int)) = true := decide_eq_true c77
                                have c77b1 : decide (1 < t331.length) = true := decide_eq_true (by omega)
                                clear c77
                                by_cases c78 : 1 < (t335.length : Int)
                                · rw [if_pos c78] at H
                                  have c78b0 : decide (1 < (t335.length : Int)) = true := decide_eq_true c78
                                  have c78b1 : decide (1 < t335.length) = true := decide_eq_true (by omega)
                                  clear c78
                                  obtain rfl := Option.some.inj H
                                  have hcz79_0 : wc.cell? ⟨gb329, 0, none⟩ = some (.string a0_0) := (blk_cell BK329.out 0).trans rfl
                                  have hcz79_1 : wc.cell? ⟨gb329, 1, none⟩ = some (.string a0_1) := (blk_cell BK329.out 1).trans rfl
                                  have hfz79_0 := blk_frozen BK329.out 0
                                  have hfz79_1 := blk_frozen BK329.out 1
                                  obtain ⟨Ao80, co80, eo80⟩ := Kd.R_slice HO_6.out
                                  subst eo80
                                  obtain ⟨Ao81, co81, eo81⟩ := Kd.R_slice HO_8.out
                                  subst eo81
                                  have p343 : 0 ≤ (1 : Int) := (by omega)
                                  have q343 : 1 < (t331.length : Int) := of_decide_eq_true (by first | (with_reducible assumption) | assumption)
                                  obtain ⟨ad343, e343, hx343_0, hx343_1⟩ := at_T67 (Kd.R_reads' HO_6.out).2.2 1 p343 q343
                                  cases e343
                                  (try simp only [show (1 : Int).toNat = 1 from rfl, Nat.reduceMul, Nat.reduceEqDiff, Go.Addr.add, ↓reduceIte] at hx343_0)
                                  (try simp only [show (1 : Int).toNat = 1 from rfl, Nat.reduceMul, Nat.reduceEqDiff, Go.Addr.add, ↓reduceIte] at hx343_1)
                                  have qi343 : (1 < t331.length) = True := eq_true (by omega)
                                  (try rw [show ((1 : Int)).toNat = 1 from rfl] at hx343_0)
                                  (try rw [show 1 * 2 = 2 from rfl] at hx343_0)
                                  (try rw [show ((1 : Int)).toNat = 1 from rfl] at hx343_1)
                                  (try rw [show 1 * 2 = 2 from rfl] at hx343_1)
                                  replace p343 := eq_true p343
                                  replace q343 := eq_true q343
                                  have p344 : 0 ≤ (1 : Int) := (by omega)
                                  have q344 : 1 < (t335.length : Int) := of_decide_eq_true (by first | (with_reducible assumption) | assumption)
                                  obtain ⟨ad344, e344, hx344_0, hx344_1⟩ := at_T67 (Kd.R_reads' HO_8.out).2.2 1 p344 q344
                                  cases e344
                                  (try simp only [show (1 : Int).toNat = 1 from rfl, Nat.reduceMul, Nat.reduceEqDiff, Go.Addr.add, ↓reduceIte] at hx344_0)
                                  (try simp only [show (1 : Int).toNat = 1 from rfl, Nat.reduceMul, Nat.reduceEqDiff, Go.Addr.add, ↓reduceIte] at hx344_1)
                                  have qi344 : (1 < t335.length) = True := eq_true (by omega)
                                  (try rw [show ((1 : Int)).toNat = 1 from rfl] at hx344_0)
                                  (try rw [show 1 * 2 = 2 from rfl] at hx344_0)
                                  (try rw [show ((1 : Int)).toNat = 1 from rfl] at hx344_1)
                                  (try rw [show 1 * 2 = 2 from rfl] at hx344_1)
                                  replace p344 := eq_true p344
                                  replace q344 := eq_true q344
                                  go_wp2
                                  repeat (go_quiet (fail); try go_wp2)
                                  go_ret
                                  exact ⟨by first | rfl | (simp [errW_none, errW_some] <;> rfl) | (simp [*, errW_none, errW_some] <;> rfl), by repeat (first | (with_reducible first | exact HB.out | apply below_alloc | apply pw_below_drewN | apply below_drew1 | refine below_set ?_ GE329.out) | exact HB.out)⟩
                                · rw [if_neg c78] at H
                                  exact absurd H (by simp)
                              · rw [if_neg c77] at H
                                exact absurd H (by simp)
                            · rw [if_neg c76] at H
                              have c76b0 : decide (2 ≤ (t335.length : Int)) = false := decide_eq_false c76
                              have c76b1 : decide (2 ≤ t335.length) = false := decide_eq_false (by omega)
                              clear c76
                              obtain rfl := Option.some.inj H
                              have hcz82_0 : wc.cell? ⟨gb329, 0, none⟩ = some (.string a0_0) := (blk_cell BK329.out 0).trans rfl
                              have hcz82_1 : wc.cell? ⟨gb329, 1, none⟩ = some (.string a0_1) := (blk_cell BK329.out 1).trans rfl
                              have hfz82_0 := blk_frozen BK329.out 0
                              have hfz82_1 := blk_frozen BK329.out 1
                              obtain ⟨Ao83, co83, eo83⟩ := Kd.R_slice HO_6.out
                              subst eo83
                              obtain ⟨Ao84, co84, eo84⟩ := Kd.R_slice HO_8.out
                              subst eo84
                              go_wp2
                              repeat (go_quiet (fail); try go_wp2)
                              go_ret
                              exact ⟨by first | rfl | (simp [errW_none, errW_some] <;> rfl) | (simp [*, errW_none, errW_some] <;> rfl), by repeat (first | (with_reducible first | exact HB.out | apply below_alloc | apply pw_below_drewN | apply below_drew1 | refine below_set ?_ GE329.out) | exact HB.out)⟩
                          · rw [if_neg c75] at H
                            have c75b0 : decide (2 ≤ (t331.length : Int)) = false := decide_eq_false c75
                            have c75b1 : decide (2 ≤ t331.length) = false := decide_eq_false (by omega)
                            clear c75
                            obtain rfl := Option.some.inj H
                            have hcz85_0 : wc.cell? ⟨gb329, 0, none⟩ = some (.string a0_0) := (blk_cell BK329.out 0).trans rfl
                            have hcz85_1 : wc.cell? ⟨gb329, 1, none⟩ = some (.string a0_1) := (blk_cell BK329.out 1).trans rfl
                            have hfz85_0 := blk_frozen BK329.out 0
                            have hfz85_1 := blk_frozen BK329.out 1
                            obtain ⟨Ao86, co86, eo86⟩ := Kd.R_slice HO_6.out
                            subst eo86
                            go_wp2
                            repeat (go_quiet (fail); try go_wp2)
                            go_ret
                            exact ⟨by first | rfl | (simp [errW_none, errW_some] <;> rfl) | (simp [*, errW_none, errW_some] <;> rfl), by repeat (first | (with_reducible first | exact HB.out | apply below_alloc | apply pw_below_drewN | apply below_drew1 | refine below_set ?_ GE329.out) | exact HB.out)⟩
end Go.Proofs.YthfohhpjanoimaaDoor.P
end

section
namespace Go.Proofs.YthfohhpjanoimaaDoor.P
open Go.RowKit Go.Proofs.YthfohhpjanoimaaDoorW.PrintWords Go.Proofs.YthfohhpjanoimaaDoorW.PrintLast Go.Proofs.YthfohhpjanoimaaDoorW.PrintMore Go.Proofs.YthfohhpjanoimaaDoorM
attribute [local go_sem] max2_int min2_int max_two min_two max_three min_three max_four min_four   -- for this text's walks alone
set_option linter.unusedVariables false
set_option linter.unusedSimpArgs false
def impl_Matches.inn (k : Nat) (v : ByteArray) : List S38 → Bool → Option Bool
  | [], b => some b
  | t :: ts, b => if b = true then (impl_meets.f k t.f0 t.f1 v).bind fun r => impl_Matches.inn k v ts r else impl_Matches.inn k v ts false
def impl_Matches.any (k : Nat) (v : ByteArray) : List (List S38) → Option Bool
  | [] => some false
  | a :: cs => (impl_Matches.inn k v a true).bind fun b => if b = true then some true else impl_Matches.any k v cs
def impl_Matches.f (k : Nat) (a0 a1 : ByteArray) : Option Bool := (impl_ReadConstraint.f k a0).bind fun p => if p.2 = true then (impl_VersionOk.f k a1).bind fun t => if t = true then impl_Matches.any k a1 p.1 else some false else some false
theorem impl_Matches.at {w : World} {A : Option Addr} {n : Nat} {xs : List (List S38)} (h : Kd.C (Kd.slice 38 k38) w A n xs) (i : Nat) (hi : i < n) : ∃ ad A0 c0, A = some ad ∧ w.cell? (ad.add i) = some (.slice A0 (xs.getD i []).length c0) ∧ (xs.getD i []).length ≤ c0 ∧ k38.C w A0 (xs.getD i []).length (xs.getD i []) := by
  obtain ⟨ad, c, hA, hc, ⟨A0, c0, rfl, hl, hC⟩, hcell⟩ := ReadsRow.get_ h [] (i : Int) (by omega) (by omega)
  have h1 := hcell 0 _ rfl
  rw [Int.toNat_natCast] at h1 hl hC
  exact ⟨ad, A0, c0, hA, by simpa [Kd.slice] using h1, hl, hC⟩
theorem impl_Matches.drop_inn (k : Nat) (v : ByteArray) (l : List S38) (j : Nat) (hj : j < l.length) (b : Bool) : impl_Matches.inn k v (l.drop j) b = if b = true then (impl_meets.f k (rd_T38 l j).f0 (rd_T38 l j).f1 v).bind fun r => impl_Matches.inn k v (l.drop (j + 1)) r else impl_Matches.inn k v (l.drop (j + 1)) false := by
  rw [List.drop_eq_getElem_cons hj, impl_Matches.inn]
  have : l[j] = rd_T38 l j := by simp [rd_T38, List.getD_eq_getElem?_getD, List.getElem?_eq_getElem hj]
  rw [this]
set_option maxRecDepth 100000 in
set_option maxHeartbeats 4000000 in
theorem impl_Matches.calls (k : Nat) (a0 a1 : ByteArray) (r : Bool) (w : World) (hE : EnvW w) (h : impl_Matches.f k a0 a1 = some r) :
    Calls Tryd.prog 12 #[.string a0, .string a1] w fun e w' => e = .returned (.bool r) ∧ Below w.heap.size w w' := by
  unfold impl_Matches.f at h
  obtain ⟨⟨cs, ok⟩, hp, h⟩ := Option.bind_eq_some_iff.mp h
  have HP := Aside0.mk hp
  have HE := Aside0.mk hE
  have hu38 := Tryd.underlying38
  clear hp hE
  simp only [] at h
  cases ok with
  | false =>
    rw [if_neg (by decide)] at h
    obtain rfl := Option.some.inj h
    clear h
    go_enter Tryd.func12, Tryd.ntmps12
    go_wp2_with (go_at_call 7; refine (impl_ReadConstraint.calls k a0 cs false _ HE.out HP.out).mono ?_; rintro e w8 ⟨v8, rfl, hS, hb8⟩)
    go_ret
    exact ⟨rfl, hb8⟩
  | true =>
    rw [if_pos rfl] at h
    obtain ⟨t, ht, h⟩ := Option.bind_eq_some_iff.mp h
    have HT := Aside0.mk ht
    clear ht
    cases t with
    | false =>
      rw [if_neg (by decide)] at h
      obtain rfl := Option.some.inj h
      clear h
      go_enter Tryd.func12, Tryd.ntmps12
      go_wp2_with (first | (go_at_call 7; refine (impl_ReadConstraint.calls k a0 cs true _ HE.out HP.out).mono ?_; rintro e w8 ⟨v8, rfl, hS, hb8⟩) | (go_at_call 22; refine (impl_VersionOk.calls k a1 false _ HT.out).mono ?_; rintro e w9 ⟨rfl, hb9⟩))
      go_ret
      exact ⟨rfl, below_step hb8 hb9⟩
    | true =>
      rw [if_pos rfl] at h
      have HR := Aside0.mk h
      clear h
      go_enter Tryd.func12, Tryd.ntmps12
      go_wp2_with (first | (go_at_call 7; refine (impl_ReadConstraint.calls k a0 cs true _ HE.out HP.out).mono ?_; rintro e w8 ⟨v8, rfl, hS, hb8⟩; (obtain ⟨A, c, rfl, hc, hC⟩ := Kd.S_reads hS); clear hS) | (go_at_call 22; refine (impl_VersionOk.calls k a1 true _ HT.out).mono ?_; rintro e w9 ⟨rfl, hb9⟩))
      have HC := Aside0.mk (Kd.C_below hC hb9)
      have hB9 := below_step hb8 hb9
      have HB9 := Aside0.mk hB9
      have hln := hC.2.1
      clear hC hb8 hb9 hB9
      go_loopw [26] (fun v26 W => ∃ i : Nat, v26 = .int .i64 i ∧ i ≤ cs.length ∧ Aside0 (impl_Matches.any k a1 (cs.drop i) = some r) ∧ Aside0 (Below w9.heap.size w9 W)) (fun v26 _ => cs.length - (intOf v26).toNat)
      case atStart => exact ⟨0, rfl, Nat.zero_le _, ⟨by rw [List.drop_zero]; exact HR.out⟩, ⟨Below.refl _ _⟩⟩
      case round =>
        clear HR
        obtain ⟨i, rfl, hi, HA, HB⟩ := hrel
        by_cases hlt : i < cs.length
        · obtain ⟨ad, Ai, ci, rfl, hx, hci, hCi⟩ := impl_Matches.at (Kd.C_below HC.out HB.out) i hlt
          have hA := HA.out
          rw [List.drop_eq_getElem_cons hlt, impl_Matches.any] at hA
          have hgd : cs[i] = cs.getD i [] := by simp [List.getD_eq_getElem?_getD, List.getElem?_eq_getElem hlt]
          rw [hgd] at hA
          obtain ⟨b, hb, hA⟩ := Option.bind_eq_some_iff.mp hA
          have HI := Aside0.mk hb
          have HA2 := Aside0.mk hA
          have HCi := Aside0.mk hCi
          have hli := hCi.2.1
          obtain ⟨l, hl⟩ : ∃ l, l = cs.getD i [] := ⟨_, rfl⟩
          rw [← hl] at hx hci HI HCi hli
          have HL := Aside0.mk hl
          clear hA hb hCi HA hgd hl
          have c1 : decide ((i : Int) < (cs.length : Int)) = true := by simpa using hlt
          have c2 : decide (i < cs.length) = true := by simpa using hlt
          have hw1 : wrap64 ((i : Int) + 1) = ((i + 1 : Nat) : Int) := by unfold wrap64; omega
          have HBr := Aside0.mk (Below.refl wr.heap.size wr)
          go_wp2
          go_loopw [9, 32] (fun v9 v32 W => ∃ (j : Nat) (bb : Bool), v9 = .bool bb ∧ v32 = .int .i64 j ∧ j ≤ l.length ∧ Aside0 (impl_Matches.inn k a1 (l.drop j) bb = some b) ∧ Aside0 (Below wr.heap.size wr W)) (fun _ v32 _ => l.length - (intOf v32).toNat)
          case atStart => exact ⟨0, true, rfl, rfl, Nat.zero_le _, ⟨by rw [List.drop_zero]; exact HI.out⟩, ⟨Below.refl _ _⟩⟩
          case round =>
            clear HI
            obtain ⟨j, bb, rfl, rfl, hj, HI2, HB2⟩ := hrel
            by_cases hjl : j < l.length
            · obtain ⟨ad2, Ae, hx_0, hx_1⟩ := at_T38 (Kd.C_below HCi.out HB2.out) (j : Int) (by omega) (by omega)
              subst Ae
              simp only [Int.toNat_natCast] at hx_0 hx_1
              have c3 : decide ((j : Int) < (l.length : Int)) = true := by simpa using hjl
              have c4 : decide (j < l.length) = true := by simpa using hjl
              have hw2 : wrap64 ((j : Int) + 1) = ((j + 1 : Nat) : Int) := by unfold wrap64; omega
              have hI := HI2.out
              rw [impl_Matches.drop_inn k a1 l j hjl] at hI
              cases bb with
              | true =>
                rw [if_pos rfl] at hI
                obtain ⟨rb, hm, hI⟩ := Option.bind_eq_some_iff.mp hI
                have HM := Aside0.mk hm
                have HI3 := Aside0.mk hI
                clear hm hI HI2
                go_wp2_with (go_at_call 30; refine (impl_meets.calls k (rd_T38 l j).f0 (rd_T38 l j).f1 a1 rb _ HM.out).mono ?_; rintro e w10 ⟨rfl, hb10⟩)
                go_roundw
                case rel => exact ⟨j + 1, rb, rfl, by first | rfl | (rw [hw2]) | (congr 1), by omega, HI3, ⟨below_step (below_alloc HB2.out _) hb10⟩⟩
                case measure => simp [intOf]; omega
              | false =>
                rw [if_neg (by decide)] at hI
                have HI3 := Aside0.mk hI
                clear hI HI2
                go_wp2
                go_roundw
                case rel => exact ⟨j + 1, false, rfl, by first | rfl | (rw [hw2]) | (congr 1), by omega, HI3, ⟨below_alloc HB2.out _⟩⟩
                case measure => simp [intOf]; omega
            · have c3 : decide ((j : Int) < (l.length : Int)) = false := by simpa using hjl
              have c4 : decide (j < l.length) = false := by simpa using hjl
              have hI := HI2.out
              rw [List.drop_eq_nil_of_le (by omega), impl_Matches.inn] at hI
              obtain rfl := Option.some.inj hI
              have hA := HA2.out
              clear hI HI2 HA2
              cases bb with
              | true =>
                rw [if_pos rfl] at hA
                obtain rfl := Option.some.inj hA
                clear hA
                go_wp2
                go_ret
                exact ⟨rfl, below_step HB9.out (below_step HB.out HB2.out)⟩
              | false =>
                rw [if_neg (by decide)] at hA
                have HA3 := Aside0.mk hA
                clear hA
                go_wp2
                go_roundw
                case rel => exact ⟨i + 1, by first | rfl | (rw [hw1]) | (congr 1), by omega, HA3, ⟨below_step HB.out HB2.out⟩⟩
                case measure => simp [intOf]; omega
        · have c1 : decide ((i : Int) < (cs.length : Int)) = false := by simpa using hlt
          have c2 : decide (i < cs.length) = false := by simpa using hlt
          have hA := HA.out
          rw [List.drop_eq_nil_of_le (by omega), impl_Matches.any] at hA
          obtain rfl := Option.some.inj hA
          clear hA HA
          go_wp2
          go_ret
          exact ⟨rfl, below_step HB9.out HB.out⟩
def laws_FnExactMatches.f (k : Nat) (a0 : ByteArray) (a1 : ByteArray) : Option (Bool) := if (a0.size : Int) > 1048576 then (some true) else (if (a1.size : Int) > 1048576 then (some true) else ((spec_Matches.f k a0 a1).bind fun t345 => ((impl_Matches.f k a0 a1).bind fun t346 => (if (t346 != t345) = true then (some false) else (some true)))))
set_option maxHeartbeats 8000000 in
set_option maxRecDepth 100000 in
theorem laws_FnExactMatches.calls (k : Nat) (a0 : ByteArray) (a1 : ByteArray) (r : Bool) (w : World) (hE : EnvW w) (h : laws_FnExactMatches.f k a0 a1 = some r) :
    Calls Tryd.prog 4 #[.string a0, .string a1] w fun e w' => e = .returned (.bool r) ∧ Below w.heap.size w w' := by
  have HE := Aside0.mk hE
  clear hE
  have HB := Aside0.mk (Below.refl w.heap.size w)
  have H : (if (a0.size : Int) > 1048576 then (some true) else (if (a1.size : Int) > 1048576 then (some true) else ((spec_Matches.f k a0 a1).bind fun t345 => ((impl_Matches.f k a0 a1).bind fun t346 => (if (t346 != t345) = true then (some false) else (some true)))))) = some r := h
  clear h
  by_cases c3 : (a0.size : Int) > 1048576
  · rw [if_pos c3] at H
    have c3b0 : decide (1048576 < (a0.size : Int)) = true := decide_eq_true c3
    have c3b1 : decide (1048576 < a0.size) = true := decide_eq_true (by omega)
    clear c3
    obtain rfl := Option.some.inj H
    go_enter Tryd.func4, Tryd.ntmps4
    go_wp2
    go_ret
    exact ⟨by first | rfl | (simp [errW_none, errW_some] <;> rfl) | (simp [*, errW_none, errW_some] <;> rfl), by repeat (first | (with_reducible first | exact HB.out | apply below_alloc | apply pw_below_drewN | apply below_drew1) | exact HB.out)⟩
  · rw [if_neg c3] at H
    have c3b0 : decide (1048576 < (a0.size : Int)) = false := decide_eq_false c3
    have c3b1 : decide (1048576 < a0.size) = false := decide_eq_false (by omega)
    clear c3
    by_cases c4 : (a1.size : Int) > 1048576
    · rw [if_pos c4] at H
      have c4b0 : decide (1048576 < (a1.size : Int)) = true := decide_eq_true c4
      have c4b1 : decide (1048576 < a1.size) = true := decide_eq_true (by omega)
      clear c4
      obtain rfl := Option.some.inj H
      go_enter Tryd.func4, Tryd.ntmps4
      go_wp2
      go_ret
      exact ⟨by first | rfl | (simp [errW_none, errW_some] <;> rfl) | (simp [*, errW_none, errW_some] <;> rfl), by repeat (first | (with_reducible first | exact HB.out | apply below_alloc | apply pw_below_drewN | apply below_drew1) | exact HB.out)⟩
    · rw [if_neg c4] at H
      have c4b0 : decide (1048576 < (a1.size : Int)) = false := decide_eq_false c4
      have c4b1 : decide (1048576 < a1.size) = false := decide_eq_false (by omega)
      clear c4
      replace H := Option.bind_eq_some_iff.mp H
      obtain ⟨t345, A50, H⟩ := H
      replace H : ((impl_Matches.f k a0 a1).bind fun t346 => (if (t346 != t345) = true then (some false) else (some true))) = some r := H
      have A5 := Aside0.mk A50
      clear A50
      replace H := Option.bind_eq_some_iff.mp H
      obtain ⟨t346, A60, H⟩ := H
      replace H : (if (t346 != t345) = true then (some false) else (some true)) = some r := H
      have A6 := Aside0.mk A60
      clear A60
      by_cases c7 : (t346 != t345) = true
      · rw [if_pos c7] at H
        have c7b0 : (t346 != t345) = true := c7
        (try (have c7b1 : decide (t346 = t345) = false := by simpa using c7))
        (try (have c7b2 : (t346 == t345) = false := by simpa using c7))
        (try (have c7b3 : ¬ (t346 = t345) := by simpa using c7))
        clear c7
        obtain rfl := Option.some.inj H
        go_enter Tryd.func4, Tryd.ntmps4
        go_wp2_with (first | ((with_reducible refine gate_callee (f := 11) rfl ?_); refine goesL_ (some 15) rfl rfl Tryd.func11 (by kernel_rfl) rfl #[.string a0, .string a1] rfl (by (try simp only [List.map_toArray, List.map_cons, List.map_nil]); first | done | rfl | (simp only [List.length_drop, List.length_take]; rfl)) ?_; (with_reducible refine (spec_Matches.calls k a0 a1 t345 _ A5.out).mono ?_); rintro e w8 ⟨rfl, hb⟩; refine ⟨_, rfl, ?_⟩; have n0_ := Aside0.mk (below_step (by repeat (first | (with_reducible first | exact HB.out | apply below_alloc | apply pw_below_drewN | apply below_drew1) | exact HB.out)) hb); clear HB; have HB := n0_; clear n0_; (try clear hb); (try clear hb2); (try clear hk); (try clear hi)) | ((with_reducible refine gate_callee (f := 12) rfl ?_); refine goesL_ (some 18) rfl rfl Tryd.func12 (by kernel_rfl) rfl #[.string a0, .string a1] rfl (by (try simp only [List.map_toArray, List.map_cons, List.map_nil]); first | done | rfl | (simp only [List.length_drop, List.length_take]; rfl)) ?_; (with_reducible refine (impl_Matches.calls k a0 a1 t346 _ ?side1 A6.out).mono ?_); (case side1 => refine EnvW.below HE.out ?_; repeat (first | (with_reducible first | exact HB.out | apply below_alloc | apply pw_below_drewN | apply below_drew1) | exact HB.out)); rintro e w9 ⟨rfl, hb⟩; refine ⟨_, rfl, ?_⟩; have n0_ := Aside0.mk (below_step (by repeat (first | (with_reducible first | exact HB.out | apply below_alloc | apply pw_below_drewN | apply below_drew1) | exact HB.out)) hb); clear HB; have HB := n0_; clear n0_; (try clear hb); (try clear hb2); (try clear hk); (try clear hi)))
        go_ret
        exact ⟨by first | rfl | (simp [errW_none, errW_some] <;> rfl) | (simp [*, errW_none, errW_some] <;> rfl), by repeat (first | (with_reducible first | exact HB.out | apply below_alloc | apply pw_below_drewN | apply below_drew1) | exact HB.out)⟩
      · rw [if_neg c7] at H
        have c7b0 : (t346 != t345) = false := by simpa using c7
        (try (have c7b1 : decide (t346 = t345) = true := by simpa using c7))
        (try (have c7b2 : (t346 == t345) = true := by simpa using c7))
        clear c7
        obtain rfl := Option.some.inj H
        go_enter Tryd.func4, Tryd.ntmps4
        go_wp2_with (first | ((with_reducible refine gate_callee (f := 11) rfl ?_); refine goesL_ (some 15) rfl rfl Tryd.func11 (by kernel_rfl) rfl #[.string a0, .string a1] rfl (by (try simp only [List.map_toArray, List.map_cons, List.map_nil]); first | done | rfl | (simp only [List.length_drop, List.length_take]; rfl)) ?_; (with_reducible refine (spec_Matches.calls k a0 a1 t345 _ A5.out).mono ?_); rintro e w10 ⟨rfl, hb⟩; refine ⟨_, rfl, ?_⟩; have n0_ := Aside0.mk (below_step (by repeat (first | (with_reducible first | exact HB.out | apply below_alloc | apply pw_below_drewN | apply below_drew1) | exact HB.out)) hb); clear HB; have HB := n0_; clear n0_; (try clear hb); (try clear hb2); (try clear hk); (try clear hi)) | ((with_reducible refine gate_callee (f := 12) rfl ?_); refine goesL_ (some 18) rfl rfl Tryd.func12 (by kernel_rfl) rfl #[.string a0, .string a1] rfl (by (try simp only [List.map_toArray, List.map_cons, List.map_nil]); first | done | rfl | (simp only [List.length_drop, List.length_take]; rfl)) ?_; (with_reducible refine (impl_Matches.calls k a0 a1 t346 _ ?side1 A6.out).mono ?_); (case side1 => refine EnvW.below HE.out ?_; repeat (first | (with_reducible first | exact HB.out | apply below_alloc | apply pw_below_drewN | apply below_drew1) | exact HB.out)); rintro e w11 ⟨rfl, hb⟩; refine ⟨_, rfl, ?_⟩; have n0_ := Aside0.mk (below_step (by repeat (first | (with_reducible first | exact HB.out | apply below_alloc | apply pw_below_drewN | apply below_drew1) | exact HB.out)) hb); clear HB; have HB := n0_; clear n0_; (try clear hb); (try clear hb2); (try clear hk); (try clear hi)))
        go_ret
        exact ⟨by first | rfl | (simp [errW_none, errW_some] <;> rfl) | (simp [*, errW_none, errW_some] <;> rfl), by repeat (first | (with_reducible first | exact HB.out | apply below_alloc | apply pw_below_drewN | apply below_drew1) | exact HB.out)⟩
end Go.Proofs.YthfohhpjanoimaaDoor.P
end
