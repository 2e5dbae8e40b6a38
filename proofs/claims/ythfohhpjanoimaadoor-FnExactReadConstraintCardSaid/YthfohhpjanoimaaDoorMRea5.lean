/- Texts of Rea, put together by program. -/
import Derived.Test.YthfohhpjanoimaaDoorMRea3
import Derived.Test.YthfohhpjanoimaaDoorMRea4

section
namespace Go.Proofs.YthfohhpjanoimaaDoor.P
open Go.RowKit Go.Proofs.YthfohhpjanoimaaDoorW.PrintWords Go.Proofs.YthfohhpjanoimaaDoorW.PrintLast Go.Proofs.YthfohhpjanoimaaDoorW.PrintMore Go.Proofs.YthfohhpjanoimaaDoorM
attribute [local go_sem] max2_int min2_int max_two min_two max_three min_three max_four min_four   -- for this text's walks alone
set_option linter.unusedVariables false
set_option linter.unusedSimpArgs false
mutual
def impl_ReadConstraint.l0 : Nat → List (List (S38)) → List ByteArray → Int → Int → Option ((List (List (S38))) × Bool)
  | 0, _, _, _, _ => none
  | k + 1, x4, x17, x18, x19 => if x19 < x18 then (if 0 ≤ x19 then (if x19 < (x17.length : Int) then ((strings_Split.f (rdOf ByteArray.empty x17 x19) (⟨#[32]⟩ : ByteArray)).bind fun t208 => (impl_ReadConstraint.l1 k x4 ([] : List (S38)) x17 x18 x19 t208 (t208.length : Int) 0)) else (none)) else (none)) else (some (x4, true))
def impl_ReadConstraint.l1 : Nat → List (List (S38)) → List (S38) → List ByteArray → Int → Int → List ByteArray → Int → Int → Option ((List (List (S38))) × Bool)
  | 0, _, _, _, _, _, _, _, _ => none
  | k + 1, x4, x7, x17, x18, x19, x24, x25, x26 => if x26 < x25 then (if 0 ≤ x26 then (if x26 < (x24.length : Int) then (if (rdOf ByteArray.empty x24 x26).toList = ([] : List UInt8) then (impl_ReadConstraint.l1 k x4 x7 x17 x18 x19 x24 x25 (wrap64 (x26 + 1))) else ((some (([(⟨#[42]⟩ : ByteArray), (⟨#[33, 61]⟩ : ByteArray), (⟨#[62, 61]⟩ : ByteArray), (⟨#[60, 61]⟩ : ByteArray), (⟨#[61]⟩ : ByteArray), (⟨#[62]⟩ : ByteArray), (⟨#[60]⟩ : ByteArray), (⟨#[94]⟩ : ByteArray), (⟨#[126]⟩ : ByteArray)] : List ByteArray) : List ByteArray)).bind fun y220 => (impl_ReadConstraint.l2 k x4 x7 (rdOf ByteArray.empty x24 x26) x17 x18 x19 x24 x25 x26 y220 (y220.length : Int) 0 (⟨#[]⟩ : ByteArray) (⟨#[]⟩ : ByteArray)))) else (none)) else (none)) else (if (x7.length : Int) = 0 then (some (([] : List (List (S38))), false)) else (if (x7.length : Int) > 1 then ((impl_Term.f x7).bind fun t211 => (if t211 = true then (some (([] : List (List (S38))), false)) else (if x4.length < 5864062014805 then (impl_ReadConstraint.l0 k (x4 ++ [x7]) x17 x18 (wrap64 (x19 + 1))) else (none)))) else (if x4.length < 5864062014805 then (impl_ReadConstraint.l0 k (x4 ++ [x7]) x17 x18 (wrap64 (x19 + 1))) else (none))))
def impl_ReadConstraint.l2 : Nat → List (List (S38)) → List (S38) → ByteArray → List ByteArray → Int → Int → List ByteArray → Int → Int → List ByteArray → Int → Int → ByteArray → ByteArray → Option ((List (List (S38))) × Bool)
  | 0, _, _, _, _, _, _, _, _, _, _, _, _, _, _ => none
  | k + 1, x4, x7, x9, x17, x18, x19, x24, x25, x26, x33, x34, x35, x220000, x220001 => if x35 < x34 then (if 0 ≤ x35 then (if x35 < (x33.length : Int) then ((strings_HasPrefix.f x9 (rdOf ByteArray.empty x33 x35)).bind fun t224 => (if t224 = true then (if 0 ≤ ((rdOf ByteArray.empty x33 x35).size : Int) then (if ((rdOf ByteArray.empty x33 x35).size : Int) ≤ (x9.size : Int) then (if (rdOf ByteArray.empty x33 x35).toList = ([] : List UInt8) then (some (([] : List (List (S38))), false)) else (if (rdOf ByteArray.empty x33 x35).toList = ([42] : List UInt8) then (if (x9.extract ((rdOf ByteArray.empty x33 x35).size) x9.size).toList = ([] : List UInt8) then (if x7.length < 4398046511104 then (impl_ReadConstraint.l1 k x4 (x7 ++ [(⟨rdOf ByteArray.empty x33 x35, x9.extract ((rdOf ByteArray.empty x33 x35).size) x9.size⟩ : S38)]) x17 x18 x19 x24 x25 (wrap64 (x26 + 1))) else (none)) else (some (([] : List (List (S38))), false))) else ((impl_VersionOk.f k (x9.extract ((rdOf ByteArray.empty x33 x35).size) x9.size)).bind fun t228 => (if t228 = true then (if x7.length < 4398046511104 then (impl_ReadConstraint.l1 k x4 (x7 ++ [(⟨rdOf ByteArray.empty x33 x35, x9.extract ((rdOf ByteArray.empty x33 x35).size) x9.size⟩ : S38)]) x17 x18 x19 x24 x25 (wrap64 (x26 + 1))) else (none)) else (some (([] : List (List (S38))), false)))))) else (none)) else (none)) else (impl_ReadConstraint.l2 k x4 x7 x9 x17 x18 x19 x24 x25 x26 x33 x34 (wrap64 (x35 + 1)) x220000 x220001))) else (none)) else (none)) else (if x220000.toList = ([] : List UInt8) then (some (([] : List (List (S38))), false)) else (if x220000.toList = ([42] : List UInt8) then (if x220001.toList = ([] : List UInt8) then (if x7.length < 4398046511104 then (impl_ReadConstraint.l1 k x4 (x7 ++ [(⟨x220000, x220001⟩ : S38)]) x17 x18 x19 x24 x25 (wrap64 (x26 + 1))) else (none)) else (some (([] : List (List (S38))), false))) else ((impl_VersionOk.f k x220001).bind fun t235 => (if t235 = true then (if x7.length < 4398046511104 then (impl_ReadConstraint.l1 k x4 (x7 ++ [(⟨x220000, x220001⟩ : S38)]) x17 x18 x19 x24 x25 (wrap64 (x26 + 1))) else (none)) else (some (([] : List (List (S38))), false))))))
end
def impl_ReadConstraint.f (k : Nat) (a0 : ByteArray) : Option ((List (List (S38))) × Bool) := if (a0.size : Int) > 200 then (some (([] : List (List (S38))), false)) else ((strings_Split.f a0 (⟨#[124, 124]⟩ : ByteArray)).bind fun t204 => (impl_ReadConstraint.l0 k ([] : List (List (S38))) t204 (t204.length : Int) 0))
set_option maxHeartbeats 8000000 in
set_option maxRecDepth 100000 in
theorem impl_ReadConstraint.calls (k : Nat) (a0 : ByteArray) (r1 : List (List (S38))) (r2 : Bool) (w : World) (hE : EnvW w) (h : impl_ReadConstraint.f k a0 = some (r1, r2)) :
    Calls Tryd.prog 7 #[.string a0] w fun e w' => ∃ v0_ : Value, e = .returned (.tuple #[v0_, .bool r2]) ∧ Kd.S (Kd.slice 38 k38) 36 w' w.heap.size (fun _ => True) v0_ r1 ∧ Below w.heap.size w w' := by
  have hu38 := Tryd.underlying38
  have HE := Aside0.mk hE
  clear hE
  have HB := Aside0.mk (Below.refl w.heap.size w)
  have H : (if (a0.size : Int) > 200 then (some (([] : List (List (S38))), false)) else ((strings_Split.f a0 (⟨#[124, 124]⟩ : ByteArray)).bind fun t204 => (impl_ReadConstraint.l0 k ([] : List (List (S38))) t204 (t204.length : Int) 0))) = some (r1, r2) := h
  clear h
  by_cases c2 : (a0.size : Int) > 200
  · rw [if_pos c2] at H
    have c2b0 : decide (200 < (a0.size : Int)) = true := decide_eq_true c2
    have c2b1 : decide (200 < a0.size) = true := decide_eq_true (by omega)
    clear c2
    simp only [Option.some.injEq, Prod.mk.injEq] at H
    obtain ⟨rfl, rfl⟩ := H
    go_enter Tryd.func7, Tryd.ntmps7
    go_wp2
    go_ret2
    exact ⟨_, by first | rfl | (simp [errW_none, errW_some] <;> rfl) | (simp [*, errW_none, errW_some] <;> rfl), by first | exact Kd.S_nil _ _ _ _ _ | exact Kd.N_nil _ _ _ _ _ | exact Kd.V_nil _ _ _ _ _ | exact Kd.Q_nil _ _ _ _ _ | exact Kd.R_nil _ _ _ _ _, by repeat (first | (with_reducible first | exact HB.out | apply below_alloc | apply pw_below_drewN | apply below_drew1) | exact HB.out)⟩
  · rw [if_neg c2] at H
    have c2b0 : decide (200 < (a0.size : Int)) = false := decide_eq_false c2
    have c2b1 : decide (200 < a0.size) = false := decide_eq_false (by omega)
    clear c2
    replace H := Option.bind_eq_some_iff.mp H
    obtain ⟨t204, A30, H⟩ := H
    replace H : (impl_ReadConstraint.l0 k ([] : List (List (S38))) t204 (t204.length : Int) 0) = some (r1, r2) := H
    have A3 := Aside0.mk A30
    clear A30
    have H' := Aside0.mk H
    clear H
    go_enter Tryd.func7, Tryd.ntmps7
    go_wp2_with (first | ((with_reducible refine gate_callee (f := 20) rfl ?_); refine goesL_ (some 17) rfl rfl Tryd.func20 (by kernel_rfl) rfl #[.string a0, .string (⟨#[124, 124]⟩ : ByteArray)] rfl (by (try simp only [List.map_toArray, List.map_cons, List.map_nil]); first | done | rfl | (simp only [List.length_drop, List.length_take]; rfl)) ?_; (with_reducible refine (strings_Split.calls a0 (⟨#[124, 124]⟩ : ByteArray) t204 _ ?side1 A3.out).mono ?_); (case side1 => refine EnvW.below HE.out ?_; repeat (first | (with_reducible first | exact HB.out | apply below_alloc | apply pw_below_drewN | apply below_drew1) | exact HB.out)); rintro e w4 ⟨v205, rfl, ho0, hb⟩; refine ⟨_, rfl, ?_⟩; have n0_ := Aside0.mk (Kd.R_lower ho0 (below_size (by repeat (first | (with_reducible first | exact HB.out | apply below_alloc | apply pw_below_drewN | apply below_drew1) | exact HB.out)))); have n1_ := Aside0.mk (below_step (by repeat (first | (with_reducible first | exact HB.out | apply below_alloc | apply pw_below_drewN | apply below_drew1) | exact HB.out)) hb); clear HB; have HO206 := n0_; have HB := n1_; clear n0_ n1_; (try clear hb); (try clear hb2); (try clear hk); (try clear hi); (try clear ho0); obtain ⟨Ao5, co5, eo5⟩ := Kd.R_slice HO206.out; subst eo5))
    go_loopg [4, 19] k (fun kq v4 v19 w' => ∃ (x4_1 : List (List (S38))) (x19_1 : Int), v19 = .int .i64 x19_1 ∧ Aside0 (impl_ReadConstraint.l0 kq x4_1 t204 (t204.length : Int) x19_1 = some (r1, r2)) ∧ Aside0 (kq ≤ k) ∧ Aside0 (Kd.S (Kd.slice 38 k38) 36 w' w.heap.size (fun _ => True) v4 x4_1) ∧ Aside0 (Kd.R Kd.string 9 w' w.heap.size (fun _ => True) (.slice Ao5 t204.length co5) t204) ∧ Aside0 (Below w.heap.size w w'))
    case atStart => exact ⟨(([] : List (List (S38)))), (0), (by first | rfl | (simp; done) | (simp [*]; done)), H', ⟨Nat.le_refl _⟩, ⟨by first | exact Kd.S_nil _ _ _ _ _ | exact Kd.N_nil _ _ _ _ _ | exact Kd.V_nil _ _ _ _ _ | exact Kd.Q_nil _ _ _ _ _ | exact Kd.R_nil _ _ _ _ _⟩, ⟨by (with_reducible repeat (first | apply Kd.R_alloc | apply Kd.R_drewN | apply Kd.R_drew)); exact HO206.out⟩, ⟨by repeat (first | (with_reducible first | exact HB.out | apply below_alloc | apply pw_below_drewN | apply below_drew1) | exact HB.out)⟩⟩
    case round =>
      clear H'
      try clear c2
      try clear c2b0
      try clear c2b1
      try clear p2
      obtain ⟨x4_1, x19_1, rfl, HA, HK1, HO_4, HO_17, HB⟩ := hrel
      cases gk with
      | zero => exact absurd HA.out (by simp [impl_ReadConstraint.l0])
      | succ k1 =>
        have H := HA.out
        clear HA
        simp only [impl_ReadConstraint.l0] at H
        by_cases c6 : x19_1 < (t204.length : Int)
        · rw [if_pos c6] at H
          have c6b0 : decide (x19_1 < (t204.length : Int)) = true := decide_eq_true c6
          clear c6
          by_cases c7 : 0 ≤ x19_1
          · rw [if_pos c7] at H
            have c7b0 : decide (0 ≤ x19_1) = true := decide_eq_true c7
            clear c7
            by_cases c8 : x19_1 < (t204.length : Int)
            · rw [if_pos c8] at H
              have c8b0 : decide (x19_1 < (t204.length : Int)) = true := decide_eq_true c8
              clear c8
              replace H := Option.bind_eq_some_iff.mp H
              obtain ⟨t208, A90, H⟩ := H
              replace H : (impl_ReadConstraint.l1 k1 x4_1 ([] : List (S38)) t204 (t204.length : Int) x19_1 t208 (t208.length : Int) 0) = some (r1, r2) := H
              have A9 := Aside0.mk A90
              clear A90
              have H' := Aside0.mk H
              clear H
              have p207 : 0 ≤ (x19_1 : Int) := of_decide_eq_true (by first | (with_reducible assumption) | assumption)
              have q207 : x19_1 < (t204.length : Int) := of_decide_eq_true (by first | (with_reducible assumption) | assumption)
              obtain ⟨ad207, e207, hx207_0⟩ := Kd.at_string (Kd.R_reads' HO_17.out).2.2 x19_1 p207 q207
              cases e207
              replace p207 := eq_true p207
              replace q207 := eq_true q207
              go_wp2_with (first | ((with_reducible refine gate_callee (f := 20) rfl ?_); refine goesL_ (some 24) rfl rfl Tryd.func20 (by kernel_rfl) rfl #[.string (rdOf ByteArray.empty t204 x19_1), .string (⟨#[32]⟩ : ByteArray)] rfl (by (try simp only [List.map_toArray, List.map_cons, List.map_nil]); first | done | rfl | (simp only [List.length_drop, List.length_take]; rfl)) ?_; (with_reducible refine (strings_Split.calls (rdOf ByteArray.empty t204 x19_1) (⟨#[32]⟩ : ByteArray) t208 _ ?side1 A9.out).mono ?_); (case side1 => refine EnvW.below HE.out ?_; repeat (first | (with_reducible first | exact HB.out | apply below_alloc | apply pw_below_drewN | apply below_drew1) | exact HB.out)); rintro e w10 ⟨v209, rfl, ho0, hb⟩; refine ⟨_, rfl, ?_⟩; have n0_ := Aside0.mk (Kd.S_below (by (with_reducible repeat (first | apply Kd.S_alloc | apply Kd.S_drewN | apply Kd.S_drew)); exact HO_4.out) hb); have n1_ := Aside0.mk (Kd.R_elder' (by (with_reducible repeat (first | apply Kd.R_alloc | apply Kd.R_drewN | apply Kd.R_drew)); exact HO_17.out) (Kd.R_base ho0) hb); have n2_ := Aside0.mk (Kd.R_lower (Kd.R_new' ho0 (Kd.R_lt (by (with_reducible repeat (first | apply Kd.R_alloc | apply Kd.R_drewN | apply Kd.R_drew)); exact HO_17.out))) (below_size (by repeat (first | (with_reducible first | exact HB.out | apply below_alloc | apply pw_below_drewN | apply below_drew1) | exact HB.out)))); have n3_ := Aside0.mk (below_step (by repeat (first | (with_reducible first | exact HB.out | apply below_alloc | apply pw_below_drewN | apply below_drew1) | exact HB.out)) hb); clear HO_4; clear HO_17; clear HB; have HO_4 := n0_; have HO_17 := n1_; have HO210 := n2_; have HB := n3_; clear n0_ n1_ n2_ n3_; (try clear hb); (try clear hb2); (try clear hk); (try clear hi); (try clear ho0); obtain ⟨Ao11, co11, eo11⟩ := Kd.R_slice HO210.out; subst eo11))
              go_loopg [7, 26] k1 (fun kq v7 v26 w' => ∃ (x7_2 : List (S38)) (x26_2 : Int), v26 = .int .i64 x26_2 ∧ Aside0 (impl_ReadConstraint.l1 kq x4_1 x7_2 t204 (t204.length : Int) x19_1 t208 (t208.length : Int) x26_2 = some (r1, r2)) ∧ Aside0 (kq ≤ k1) ∧ Aside0 (Kd.S (Kd.slice 38 k38) 36 w' w.heap.size (fun k_ => some k_ ≠ (v7 : Value).ownBlock) u4 x4_1) ∧ Aside0 (Kd.R k38 38 w' w.heap.size (fun _ => True) v7 x7_2) ∧ Aside0 (Kd.R Kd.string 9 w' w.heap.size (fun k_ => some k_ ≠ ((.slice Ao11 t208.length co11) : Value).ownBlock) (.slice (some ad207) t204.length co5) t204) ∧ Aside0 (Kd.R Kd.string 9 w' w.heap.size (fun k_ => some k_ ≠ ((.slice (some ad207) t204.length co5) : Value).ownBlock) (.slice Ao11 t208.length co11) t208) ∧ Aside0 (Below w.heap.size w w'))
              case atStart => exact ⟨(([] : List (S38))), (0), (by first | rfl | (simp; done) | (simp [*]; done)), H', ⟨Nat.le_refl _⟩, ⟨by (with_reducible repeat (first | apply Kd.S_alloc | apply Kd.S_drewN | apply Kd.S_drew)); exact Kd.S_mono HO_4.out (fun _ hk => (by simp [Value.ownBlock]))⟩, ⟨by first | exact Kd.R_nil _ _ _ _ _ | exact Kd.N_nil _ _ _ _ _ | exact Kd.V_nil _ _ _ _ _ | exact Kd.Q_nil _ _ _ _ _ | exact Kd.S_nil _ _ _ _ _⟩, ⟨by (with_reducible repeat (first | apply Kd.R_alloc | apply Kd.R_drewN | apply Kd.R_drew)); exact Kd.R_mono HO_17.out (fun _ hk => hk.2)⟩, ⟨by (with_reducible repeat (first | apply Kd.R_alloc | apply Kd.R_drewN | apply Kd.R_drew)); exact Kd.R_mono HO210.out (fun _ hk => hk.2)⟩, ⟨by repeat (first | (with_reducible first | exact HB.out | apply below_alloc | apply pw_below_drewN | apply below_drew1) | exact HB.out)⟩⟩
              case round =>
                clear H'
                try clear c2
                try clear c2b0
                try clear c2b1
                try clear p2
                try clear q2
                try clear hx2
                try clear c6
                try clear c6b0
                try clear c7
                try clear c7b0
                try clear c8
                try clear c8b0
                try clear hx207_0
                try clear p2
                try clear p207
                try clear q207
                obtain ⟨x7_2, x26_2, rfl, HA, HK2, HO_4, HO_7, HO_17, HO_24, HB⟩ := hrel
                cases gk with
                | zero => exact absurd HA.out (by simp [impl_ReadConstraint.l1])
                | succ k2 =>
                  have H := HA.out
                  clear HA
                  simp only [impl_ReadConstraint.l1] at H
                  by_cases c12 : x26_2 < (t208.length : Int)
                  · rw [if_pos c12] at H
                    have c12b0 : decide (x26_2 < (t208.length : Int)) = true := decide_eq_true c12
                    clear c12
                    by_cases c13 : 0 ≤ x26_2
                    · rw [if_pos c13] at H
                      have c13b0 : decide (0 ≤ x26_2) = true := decide_eq_true c13
                      clear c13
                      by_cases c14 : x26_2 < (t208.length : Int)
                      · rw [if_pos c14] at H
                        have c14b0 : decide (x26_2 < (t208.length : Int)) = true := decide_eq_true c14
                        clear c14
                        by_cases c15 : (rdOf ByteArray.empty t208 x26_2).toList = ([] : List UInt8)
                        · rw [if_pos c15] at H
                          have c15b0 : ((rdOf ByteArray.empty t208 x26_2).toList == ([] : List UInt8)) = true := beq_iff_eq.mpr c15
                          have c15b1 : ((rdOf ByteArray.empty t208 x26_2).toList != ([] : List UInt8)) = false := bne_eq_false_iff_eq.mpr c15
                          clear c15
                          have H' := Aside0.mk H
                          clear H
                          have p218 : 0 ≤ (x26_2 : Int) := of_decide_eq_true (by first | (with_reducible assumption) | assumption)
                          have q218 : x26_2 < (t208.length : Int) := of_decide_eq_true (by first | (with_reducible assumption) | assumption)
                          obtain ⟨ad218, e218, hx218_0⟩ := Kd.at_string (Kd.R_reads' HO_24.out).2.2 x26_2 p218 q218
                          cases e218
                          replace p218 := eq_true p218
                          replace q218 := eq_true q218
                          go_wp2
                          go_roundg k2
                          case measure => have := HK1.out; have := HK2.out; omega
                          case rel => exact ⟨(x7_2), (wrap64 (x26_2 + 1)), (by first | rfl | (simp; done) | (simp [*]; done)), H', ⟨by have := HK1.out; have := HK2.out; omega⟩, ⟨by (with_reducible repeat (first | apply Kd.S_alloc | apply Kd.S_drewN | apply Kd.S_drew)); exact HO_4.out⟩, ⟨by (with_reducible repeat (first | apply Kd.R_alloc | apply Kd.R_drewN | apply Kd.R_drew)); exact HO_7.out⟩, ⟨by (with_reducible repeat (first | apply Kd.R_alloc | apply Kd.R_drewN | apply Kd.R_drew)); exact HO_17.out⟩, ⟨by (with_reducible repeat (first | apply Kd.R_alloc | apply Kd.R_drewN | apply Kd.R_drew)); exact HO_24.out⟩, ⟨by repeat (first | (with_reducible first | exact HB.out | apply below_alloc | apply pw_below_drewN | apply below_drew1) | exact HB.out)⟩⟩
                        · rw [if_neg c15] at H
                          have c15b0 : ((rdOf ByteArray.empty t208 x26_2).toList == ([] : List UInt8)) = false := beq_eq_false_iff_ne.mpr c15
                          have c15b1 : ((rdOf ByteArray.empty t208 x26_2).toList != ([] : List UInt8)) = true := bne_iff_ne.mpr c15
                          obtain ⟨y220, hy220⟩ : ∃ y_ : List ByteArray, y_ = (([(⟨#[42]⟩ : ByteArray), (⟨#[33, 61]⟩ : ByteArray), (⟨#[62, 61]⟩ : ByteArray), (⟨#[60, 61]⟩ : ByteArray), (⟨#[61]⟩ : ByteArray), (⟨#[62]⟩ : ByteArray), (⟨#[60]⟩ : ByteArray), (⟨#[94]⟩ : ByteArray), (⟨#[126]⟩ : ByteArray)] : List ByteArray)) := ⟨_, rfl⟩
                          replace H : (impl_ReadConstraint.l2 k2 x4_1 x7_2 (rdOf ByteArray.empty t208 x26_2) t204 (t204.length : Int) x19_1 t208 (t208.length : Int) x26_2 y220 (y220.length : Int) 0 (⟨#[]⟩ : ByteArray) (⟨#[]⟩ : ByteArray)) = some (r1, r2) := by first | (rw [hy220]; with_reducible exact H) | (have H2_ := (Option.bind_some _ _).symm.trans H; rw [hy220]; with_reducible exact H2_) | (have H2_ := (Option.bind_some _ _).symm.trans H; with_reducible exact H2_) | with_reducible exact H | (rw [hy220]; exact H) | exact H
                          have Ny220 := Aside0.mk hy220
                          clear hy220
                          have H' := Aside0.mk H
                          clear H
                          have p218 : 0 ≤ (x26_2 : Int) := of_decide_eq_true (by first | (with_reducible assumption) | assumption)
                          have q218 : x26_2 < (t208.length : Int) := of_decide_eq_true (by first | (with_reducible assumption) | assumption)
                          obtain ⟨ad218, e218, hx218_0⟩ := Kd.at_string (Kd.R_reads' HO_24.out).2.2 x26_2 p218 q218
                          cases e218
                          replace p218 := eq_true p218
                          replace q218 := eq_true q218
                          go_wp2_with (first | ((with_reducible refine gate_dst (N := 10) rfl ?_); (try (refine gate_guard (by rfl) ?_; dsimp only)); refine box_event ?hg (N := 10) ?hd (cs := #[.string (⟨#[]⟩ : ByteArray), .string (⟨#[]⟩ : ByteArray)]) (t := 38) ?hr ?_; (case hd => rfl); (case hg => rfl); (case hr => first | (go_simp; done) | (go_simp; rfl)); intro gb219 hg w16 hbox hb; have n0_ := Aside0.mk (Kd.S_below (Kd.S_elderB (by (with_reducible repeat (first | apply Kd.S_alloc | apply Kd.S_drewN | apply Kd.S_drew)); exact HO_4.out) gb219 (Nat.le_of_eq hg.symm)) hb); have n1_ := Aside0.mk (Kd.R_below (Kd.R_elderB (by (with_reducible repeat (first | apply Kd.R_alloc | apply Kd.R_drewN | apply Kd.R_drew)); exact HO_7.out) gb219 (Nat.le_of_eq hg.symm)) hb); have n2_ := Aside0.mk (Kd.R_below (by (with_reducible repeat (first | apply Kd.R_alloc | apply Kd.R_drewN | apply Kd.R_drew)); exact HO_17.out) hb); have n3_ := Aside0.mk (Kd.R_below (by (with_reducible repeat (first | apply Kd.R_alloc | apply Kd.R_drewN | apply Kd.R_drew)); exact HO_24.out) hb); have n4_ := Aside0.mk (below_step (by repeat (first | (with_reducible first | exact HB.out | apply below_alloc | apply pw_below_drewN | apply below_drew1) | exact HB.out)) hb); have n5_ := Aside0.mk (hbox); have n6_ := Aside0.mk ((by rw [hg]; exact (below_size (by repeat (first | (with_reducible first | exact HB.out | apply below_alloc | apply pw_below_drewN | apply below_drew1) | exact HB.out))) : w.heap.size ≤ gb219)); have n7_ := Aside0.mk ((by rw [hg]; exact (below_size (by repeat (first | (with_reducible first | exact HB.out | apply below_alloc | apply pw_below_drewN | apply below_drew1) | exact HB.out))) : w.heap.size ≤ gb219)); clear HO_4; clear HO_7; clear HO_17; clear HO_24; clear HB; have HO_4 := n0_; have HO_7 := n1_; have HO_17 := n2_; have HO_24 := n3_; have HB := n4_; have BK219 := n5_; have GW219 := n6_; have GE219 := n7_; clear n0_ n1_ n2_ n3_ n4_ n5_ n6_ n7_; clear hb hbox hg; have hcz17_0 : w16.cell? ⟨gb219, 0, none⟩ = some (.string (⟨#[]⟩ : ByteArray)) := (blk_cell BK219.out 0).trans rfl; have hcz17_1 : w16.cell? ⟨gb219, 1, none⟩ = some (.string (⟨#[]⟩ : ByteArray)) := (blk_cell BK219.out 1).trans rfl; have hfz17_0 := blk_frozen BK219.out 0; have hfz17_1 := blk_frozen BK219.out 1) | ((with_reducible refine gate_dst (N := 33) rfl ?_); (try (refine gate_guard (by rfl) ?_; dsimp only)); refine Kd.R_lit Kd.string _ 9 ?hg (N := 33) ?hd (xs := ([(⟨#[42]⟩ : ByteArray), (⟨#[33, 61]⟩ : ByteArray), (⟨#[62, 61]⟩ : ByteArray), (⟨#[60, 61]⟩ : ByteArray), (⟨#[61]⟩ : ByteArray), (⟨#[62]⟩ : ByteArray), (⟨#[60]⟩ : ByteArray), (⟨#[94]⟩ : ByteArray), (⟨#[126]⟩ : ByteArray)] : List ByteArray)) (inner := [.string (⟨#[42]⟩ : ByteArray), .string (⟨#[33, 61]⟩ : ByteArray), .string (⟨#[62, 61]⟩ : ByteArray), .string (⟨#[60, 61]⟩ : ByteArray), .string (⟨#[61]⟩ : ByteArray), .string (⟨#[62]⟩ : ByteArray), .string (⟨#[60]⟩ : ByteArray), .string (⟨#[94]⟩ : ByteArray), .string (⟨#[126]⟩ : ByteArray)]) (ok := fun _ => True) (okp := fun _ => True) ?hr ?hp (fun _ hk => hk) trivial (Below.refl _ _) (Nat.le_refl _) (by simp) ?_; (case hd => rfl); (case hg => rfl); (case hr => first | (go_simp; done) | (go_simp; rfl)); (case hp => exact (Reps.one (show Kd.M Kd.string _ _ _ (⟨#[42]⟩ : ByteArray) [.string (⟨#[42]⟩ : ByteArray)] from rfl) (Reps.one (show Kd.M Kd.string _ _ _ (⟨#[33, 61]⟩ : ByteArray) [.string (⟨#[33, 61]⟩ : ByteArray)] from rfl) (Reps.one (show Kd.M Kd.string _ _ _ (⟨#[62, 61]⟩ : ByteArray) [.string (⟨#[62, 61]⟩ : ByteArray)] from rfl) (Reps.one (show Kd.M Kd.string _ _ _ (⟨#[60, 61]⟩ : ByteArray) [.string (⟨#[60, 61]⟩ : ByteArray)] from rfl) (Reps.one (show Kd.M Kd.string _ _ _ (⟨#[61]⟩ : ByteArray) [.string (⟨#[61]⟩ : ByteArray)] from rfl) (Reps.one (show Kd.M Kd.string _ _ _ (⟨#[62]⟩ : ByteArray) [.string (⟨#[62]⟩ : ByteArray)] from rfl) (Reps.one (show Kd.M Kd.string _ _ _ (⟨#[60]⟩ : ByteArray) [.string (⟨#[60]⟩ : ByteArray)] from rfl) (Reps.one (show Kd.M Kd.string _ _ _ (⟨#[94]⟩ : ByteArray) [.string (⟨#[94]⟩ : ByteArray)] from rfl) (Reps.one (show Kd.M Kd.string _ _ _ (⟨#[126]⟩ : ByteArray) [.string (⟨#[126]⟩ : ByteArray)] from rfl) (Reps.none _ _))))))))))); intro v221 w18 ho19 hb hg_ hnew_; clear hg_ hnew_; (first | rw [← Ny220.out] at ho19 | (simp only [Int.reduceToNat] at ho19; rw [← Ny220.out] at ho19)); have n0_ := Aside0.mk (Kd.S_below (by (with_reducible repeat (first | apply Kd.S_alloc | apply Kd.S_drewN | apply Kd.S_drew)); exact (Kd.S_mono (Kd.S_far (p := ⟨gb219, 1, none⟩) (Kd.S_far (p := ⟨gb219, 0, none⟩) (Kd.S_mono HO_4.out (fun k_ hk => (⟨hk, hk.2⟩ : _ ∧ k_ ≠ gb219))) (fun _ hk => hk.2) (.string (⟨#[]⟩ : ByteArray))) (fun _ hk => hk.2) (.string (⟨#[]⟩ : ByteArray))) (fun _ h_ => h_.1))) hb); have n1_ := Aside0.mk (Kd.R_below (by (with_reducible repeat (first | apply Kd.R_alloc | apply Kd.R_drewN | apply Kd.R_drew)); exact (Kd.R_mono (Kd.R_far (p := ⟨gb219, 1, none⟩) (Kd.R_far (p := ⟨gb219, 0, none⟩) (Kd.R_mono HO_7.out (fun k_ hk => (⟨hk, hk.2⟩ : _ ∧ k_ ≠ gb219))) (fun _ hk => hk.2) (.string (⟨#[]⟩ : ByteArray))) (fun _ hk => hk.2) (.string (⟨#[]⟩ : ByteArray))) (fun _ h_ => h_.1))) hb); have n2_ := Aside0.mk (Kd.R_elder' (by (with_reducible repeat (first | apply Kd.R_alloc | apply Kd.R_drewN | apply Kd.R_drew)); exact (Kd.R_mono (Kd.R_far (p := ⟨gb219, 1, none⟩) (Kd.R_far (p := ⟨gb219, 0, none⟩) (Kd.R_types HO_17.out BK219.out (by decide)) (fun _ hk => hk.2) (.string (⟨#[]⟩ : ByteArray))) (fun _ hk => hk.2) (.string (⟨#[]⟩ : ByteArray))) (fun _ h_ => h_.1))) (Kd.R_base ho19) hb); have n3_ := Aside0.mk (Kd.R_elder' (by (with_reducible repeat (first | apply Kd.R_alloc | apply Kd.R_drewN | apply Kd.R_drew)); exact (Kd.R_mono (Kd.R_far (p := ⟨gb219, 1, none⟩) (Kd.R_far (p := ⟨gb219, 0, none⟩) (Kd.R_types HO_24.out BK219.out (by decide)) (fun _ hk => hk.2) (.string (⟨#[]⟩ : ByteArray))) (fun _ hk => hk.2) (.string (⟨#[]⟩ : ByteArray))) (fun _ h_ => h_.1))) (Kd.R_base ho19) hb); have n4_ := Aside0.mk (Kd.R_lower (Kd.R_new' (Kd.R_new' ho19 (Kd.R_lt (by (with_reducible repeat (first | apply Kd.R_alloc | apply Kd.R_drewN | apply Kd.R_drew)); exact (Kd.R_mono (Kd.R_far (p := ⟨gb219, 1, none⟩) (Kd.R_far (p := ⟨gb219, 0, none⟩) (Kd.R_types HO_17.out BK219.out (by decide)) (fun _ hk => hk.2) (.string (⟨#[]⟩ : ByteArray))) (fun _ hk => hk.2) (.string (⟨#[]⟩ : ByteArray))) (fun _ h_ => h_.1))))) (Kd.R_lt (by (with_reducible repeat (first | apply Kd.R_alloc | apply Kd.R_drewN | apply Kd.R_drew)); exact (Kd.R_mono (Kd.R_far (p := ⟨gb219, 1, none⟩) (Kd.R_far (p := ⟨gb219, 0, none⟩) (Kd.R_types HO_24.out BK219.out (by decide)) (fun _ hk => hk.2) (.string (⟨#[]⟩ : ByteArray))) (fun _ hk => hk.2) (.string (⟨#[]⟩ : ByteArray))) (fun _ h_ => h_.1))))) (below_size (by repeat (first | (with_reducible first | exact HB.out | apply below_alloc | apply pw_below_drewN | apply below_drew1 | refine below_set ?_ GE219.out) | exact HB.out)))); have n5_ := Aside0.mk (blk_below (g := gb219) (o := .cells #[.string (⟨#[]⟩ : ByteArray), .string (⟨#[]⟩ : ByteArray)] 38 (0, 0)) (by (with_reducible repeat (first | refine blk_drewN ?_ _ | refine blk_drew ?_ | refine blk_alloc ?_ _)); refine blk_put (cs := #[.string (⟨#[]⟩ : ByteArray), .string (⟨#[]⟩ : ByteArray)]) ?_ 1 _ rfl; (with_reducible repeat (first | refine blk_drewN ?_ _ | refine blk_drew ?_ | refine blk_alloc ?_ _)); refine blk_put (cs := #[.string (⟨#[]⟩ : ByteArray), .string (⟨#[]⟩ : ByteArray)]) ?_ 0 _ rfl; (with_reducible repeat (first | refine blk_drewN ?_ _ | refine blk_drew ?_ | refine blk_alloc ?_ _)); exact BK219.out) hb); have n6_ := Aside0.mk (below_step (by repeat (first | (with_reducible first | exact HB.out | apply below_alloc | apply pw_below_drewN | apply below_drew1 | refine below_set ?_ GE219.out) | exact HB.out)) hb); clear HO_4; clear HO_7; clear HO_17; clear HO_24; clear BK219; clear HB; have HO_4 := n0_; have HO_7 := n1_; have HO_17 := n2_; have HO_24 := n3_; have HO222 := n4_; have BK219 := n5_; have HB := n6_; clear n0_ n1_ n2_ n3_ n4_ n5_ n6_; clear hb ho19; obtain ⟨Ao20, co20, eo20⟩ := Kd.R_slice HO222.out; subst eo20))
                          go_loopg [35] k2 (fun kq v35 w' => ∃ (x35_3 : Int) (x220000_3 : ByteArray) (x220001_3 : ByteArray), v35 = .int .i64 x35_3 ∧ Aside0 (impl_ReadConstraint.l2 kq x4_1 x7_2 (rdOf ByteArray.empty t208 x26_2) t204 (t204.length : Int) x19_1 t208 (t208.length : Int) x26_2 y220 (y220.length : Int) x35_3 x220000_3 x220001_3 = some (r1, r2)) ∧ Aside0 (kq ≤ k2) ∧ Aside0 (Kd.S (Kd.slice 38 k38) 36 w' w.heap.size (fun k_ => some k_ ≠ (u7 : Value).ownBlock ∧ k_ ≠ gb219) u4 x4_1) ∧ Aside0 (Kd.R k38 38 w' w.heap.size (fun k_ => k_ ≠ gb219) u7 x7_2) ∧ Aside0 (Kd.R Kd.string 9 w' w.heap.size (fun k_ => some k_ ≠ ((.slice (some ad218) t208.length co11) : Value).ownBlock ∧ some k_ ≠ ((.slice Ao20 y220.length co20) : Value).ownBlock) (.slice (some ad207) t204.length co5) t204) ∧ Aside0 (Kd.R Kd.string 9 w' w.heap.size (fun k_ => some k_ ≠ ((.slice (some ad207) t204.length co5) : Value).ownBlock ∧ some k_ ≠ ((.slice Ao20 y220.length co20) : Value).ownBlock) (.slice (some ad218) t208.length co11) t208) ∧ Aside0 (Kd.R Kd.string 9 w' w.heap.size (fun k_ => some k_ ≠ ((.slice (some ad207) t204.length co5) : Value).ownBlock ∧ some k_ ≠ ((.slice (some ad218) t208.length co11) : Value).ownBlock) (.slice Ao20 y220.length co20) y220) ∧ Aside0 (w'.heap[gb219]? = some (.cells #[.string x220000_3, .string x220001_3] 38 (0, 0))) ∧ Aside0 (Below w.heap.size w w'))
                          case atStart => exact ⟨(0), ((⟨#[]⟩ : ByteArray)), ((⟨#[]⟩ : ByteArray)), (by first | rfl | (simp; done) | (simp [*]; done)), H', ⟨Nat.le_refl _⟩, ⟨by (with_reducible repeat (first | apply Kd.S_alloc | apply Kd.S_drewN | apply Kd.S_drew)); exact HO_4.out⟩, ⟨by (with_reducible repeat (first | apply Kd.R_alloc | apply Kd.R_drewN | apply Kd.R_drew)); exact Kd.R_mono HO_7.out (fun _ hk => hk.2)⟩, ⟨by (with_reducible repeat (first | apply Kd.R_alloc | apply Kd.R_drewN | apply Kd.R_drew)); exact HO_17.out⟩, ⟨by (with_reducible repeat (first | apply Kd.R_alloc | apply Kd.R_drewN | apply Kd.R_drew)); exact HO_24.out⟩, ⟨by (with_reducible repeat (first | apply Kd.R_alloc | apply Kd.R_drewN | apply Kd.R_drew)); exact Kd.R_mono HO222.out (fun _ hk => ⟨hk.1.2, hk.2⟩)⟩, ⟨by (with_reducible repeat (first | refine blk_drewN ?_ _ | refine blk_drew ?_ | refine blk_alloc ?_ _)); exact BK219.out⟩, ⟨by repeat (first | (with_reducible first | exact HB.out | apply below_alloc | apply pw_below_drewN | apply below_drew1 | refine below_set ?_ GE219.out) | exact HB.out)⟩⟩
                          case round =>
                            clear H'
                            try clear c1
                            try clear c2
                            try clear c2b0
                            try clear c2b1
                            try clear p2
                            try clear q2
                            try clear hx2
                            try clear c6
                            try clear c6b0
                            try clear p6
                            try clear c7
                            try clear c7b0
                            try clear c8
                            try clear c8b0
                            try clear c12
                            try clear c12b0
                            try clear c13
                            try clear c13b0
                            try clear c14
                            try clear c14b0
                            try clear c15
                            try clear c15b0
                            try clear c15b1
                            try clear c20
                            try clear p20
                            try clear q20
                            try clear hx20
                            try clear hcz17_0
                            try clear hcz17_1
                            try clear hfz17_0
                            try clear hfz17_1
                            try clear hx207_0
                            try clear hx218_0
                            try clear p2
                            try clear p207
                            try clear p218
                            try clear q2
                            try clear q207
                            try clear q218
                            obtain ⟨x35_3, x220000_3, x220001_3, rfl, HA, HK3, HO_4, HO_7, HO_17, HO_24, HO_33, BK219, HB⟩ := hrel
                            cases gk with
                            | zero => exact absurd HA.out (by simp [impl_ReadConstraint.l2])
                            | succ k3 =>
                              have H := HA.out
                              clear HA
                              simp only [impl_ReadConstraint.l2] at H
                              by_cases c21 : x35_3 < (y220.length : Int)
                              · rw [if_pos c21] at H
                                have c21b0 : decide (x35_3 < (y220.length : Int)) = true := decide_eq_true c21
                                clear c21
                                by_cases c22 : 0 ≤ x35_3
                                · rw [if_pos c22] at H
                                  have c22b0 : decide (0 ≤ x35_3) = true := decide_eq_true c22
                                  clear c22
                                  by_cases c23 : x35_3 < (y220.length : Int)
                                  · rw [if_pos c23] at H
                                    have c23b0 : decide (x35_3 < (y220.length : Int)) = true := decide_eq_true c23
                                    clear c23
                                    replace H := Option.bind_eq_some_iff.mp H
                                    obtain ⟨t224, A240, H⟩ := H
                                    replace H : (if t224 = true then (if 0 ≤ ((rdOf ByteArray.empty y220 x35_3).size : Int) then (if ((rdOf ByteArray.empty y220 x35_3).size : Int) ≤ ((rdOf ByteArray.empty t208 x26_2).size : Int) then (if (rdOf ByteArray.empty y220 x35_3).toList = ([] : List UInt8) then (some (([] : List (List (S38))), false)) else (if (rdOf ByteArray.empty y220 x35_3).toList = ([42] : List UInt8) then (if ((rdOf ByteArray.empty t208 x26_2).extract ((rdOf ByteArray.empty y220 x35_3).size) (rdOf ByteArray.empty t208 x26_2).size).toList = ([] : List UInt8) then (if x7_2.length < 4398046511104 then (impl_ReadConstraint.l1 k3 x4_1 (x7_2 ++ [(⟨rdOf ByteArray.empty y220 x35_3, (rdOf ByteArray.empty t208 x26_2).extract ((rdOf ByteArray.empty y220 x35_3).size) (rdOf ByteArray.empty t208 x26_2).size⟩ : S38)]) t204 (t204.length : Int) x19_1 t208 (t208.length : Int) (wrap64 (x26_2 + 1))) else (none)) else (some (([] : List (List (S38))), false))) else ((impl_VersionOk.f k3 ((rdOf ByteArray.empty t208 x26_2).extract ((rdOf ByteArray.empty y220 x35_3).size) (rdOf ByteArray.empty t208 x26_2).size)).bind fun t228 => (if t228 = true then (if x7_2.length < 4398046511104 then (impl_ReadConstraint.l1 k3 x4_1 (x7_2 ++ [(⟨rdOf ByteArray.empty y220 x35_3, (rdOf ByteArray.empty t208 x26_2).extract ((rdOf ByteArray.empty y220 x35_3).size) (rdOf ByteArray.empty t208 x26_2).size⟩ : S38)]) t204 (t204.length : Int) x19_1 t208 (t208.length : Int) (wrap64 (x26_2 + 1))) else (none)) else (some (([] : List (List (S38))), false)))))) else (none)) else (none)) else (impl_ReadConstraint.l2 k3 x4_1 x7_2 (rdOf ByteArray.empty t208 x26_2) t204 (t204.length : Int) x19_1 t208 (t208.length : Int) x26_2 y220 (y220.length : Int) (wrap64 (x35_3 + 1)) x220000_3 x220001_3)) = some (r1, r2) := H
                                    have A24 := Aside0.mk A240
                                    clear A240
                                    by_cases c25 : t224 = true
                                    · subst c25
                                      have H1 : (if 0 ≤ ((rdOf ByteArray.empty y220 x35_3).size : Int) then (if ((rdOf ByteArray.empty y220 x35_3).size : Int) ≤ ((rdOf ByteArray.empty t208 x26_2).size : Int) then (if (rdOf ByteArray.empty y220 x35_3).toList = ([] : List UInt8) then (some (([] : List (List (S38))), false)) else (if (rdOf ByteArray.empty y220 x35_3).toList = ([42] : List UInt8) then (if ((rdOf ByteArray.empty t208 x26_2).extract ((rdOf ByteArray.empty y220 x35_3).size) (rdOf ByteArray.empty t208 x26_2).size).toList = ([] : List UInt8) then (if x7_2.length < 4398046511104 then (impl_ReadConstraint.l1 k3 x4_1 (x7_2 ++ [(⟨rdOf ByteArray.empty y220 x35_3, (rdOf ByteArray.empty t208 x26_2).extract ((rdOf ByteArray.empty y220 x35_3).size) (rdOf ByteArray.empty t208 x26_2).size⟩ : S38)]) t204 (t204.length : Int) x19_1 t208 (t208.length : Int) (wrap64 (x26_2 + 1))) else (none)) else (some (([] : List (List (S38))), false))) else ((impl_VersionOk.f k3 ((rdOf ByteArray.empty t208 x26_2).extract ((rdOf ByteArray.empty y220 x35_3).size) (rdOf ByteArray.empty t208 x26_2).size)).bind fun t228 => (if t228 = true then (if x7_2.length < 4398046511104 then (impl_ReadConstraint.l1 k3 x4_1 (x7_2 ++ [(⟨rdOf ByteArray.empty y220 x35_3, (rdOf ByteArray.empty t208 x26_2).extract ((rdOf ByteArray.empty y220 x35_3).size) (rdOf ByteArray.empty t208 x26_2).size⟩ : S38)]) t204 (t204.length : Int) x19_1 t208 (t208.length : Int) (wrap64 (x26_2 + 1))) else (none)) else (some (([] : List (List (S38))), false)))))) else (none)) else (none)) = some (r1, r2) := by rw [if_pos rfl] at H; exact H
                                      clear H
                                      have H := H1
                                      clear H1
                                      by_cases c26 : 0 ≤ ((rdOf ByteArray.empty y220 x35_3).size : Int)
                                      · rw [if_pos c26] at H
                                        have c26b0 := eq_true c26
                                        have c26b1 : decide (0 ≤ ((rdOf ByteArray.empty y220 x35_3).size : Int)) = true := decide_eq_true c26
                                        clear c26
                                        by_cases c27 : ((rdOf ByteArray.empty y220 x35_3).size : Int) ≤ ((rdOf ByteArray.empty t208 x26_2).size : Int)
                                        · rw [if_pos c27] at H
                                          have c27b0 := eq_true c27
                                          have c27b1 : decide (((rdOf ByteArray.empty y220 x35_3).size : Int) ≤ ((rdOf ByteArray.empty t208 x26_2).size : Int)) = true := decide_eq_true c27
                                          clear c27
                                          by_cases c28 : (rdOf ByteArray.empty y220 x35_3).toList = ([] : List UInt8)
                                          · rw [if_pos c28] at H
                                            have c28b0 : ((rdOf ByteArray.empty y220 x35_3).toList == ([] : List UInt8)) = true := beq_iff_eq.mpr c28
                                            have c28b1 : ((rdOf ByteArray.empty y220 x35_3).toList != ([] : List UInt8)) = false := bne_eq_false_iff_eq.mpr c28
                                            clear c28
                                            simp only [Option.some.injEq, Prod.mk.injEq] at H
                                            obtain ⟨rfl, rfl⟩ := H
                                            have p223 : 0 ≤ (x35_3 : Int) := of_decide_eq_true (by first | (with_reducible assumption) | assumption)
                                            have q223 : x35_3 < (y220.length : Int) := of_decide_eq_true (by first | (with_reducible assumption) | assumption)
                                            obtain ⟨ad223, e223, hx223_0⟩ := Kd.at_string (Kd.R_reads' HO_33.out).2.2 x35_3 p223 q223
                                            cases e223
                                            replace p223 := eq_true p223
                                            replace q223 := eq_true q223
                                            go_wp2_with (first | ((with_reducible refine gate_callee (f := 21) rfl ?_); refine goesL_ (some 41) rfl rfl Tryd.func21 (by kernel_rfl) rfl #[.string (rdOf ByteArray.empty t208 x26_2), .string (rdOf ByteArray.empty y220 x35_3)] rfl (by (try simp only [List.map_toArray, List.map_cons, List.map_nil]); first | done | rfl | (simp only [List.length_drop, List.length_take]; rfl)) ?_; (with_reducible refine (strings_HasPrefix.calls (rdOf ByteArray.empty t208 x26_2) (rdOf ByteArray.empty y220 x35_3) true _ A24.out).mono ?_); rintro e w' ⟨rfl, ⟨nd, rfl⟩⟩; refine ⟨_, rfl, ?_⟩; (try (rw [drewN_self wr]; generalize hq_ : World.drewN wr _ = wr; have n0_ : Aside0 (Kd.R Kd.string 9 wr w.heap.size (fun k_ => some k_ ≠ (.slice (some ad218) t208.length co11 : Value).ownBlock ∧ some k_ ≠ (.slice (some ad223) y220.length co20 : Value).ownBlock) (.slice (some ad207) t204.length co5) t204) := ⟨by rw [← hq_]; exact (by (with_reducible repeat (first | apply Kd.R_alloc | apply Kd.R_drewN | apply Kd.R_drew)); exact HO_17.out)⟩; have n1_ : Aside0 (Kd.R Kd.string 9 wr w.heap.size (fun k_ => some k_ ≠ (.slice (some ad207) t204.length co5 : Value).ownBlock ∧ some k_ ≠ (.slice (some ad223) y220.length co20 : Value).ownBlock) (.slice (some ad218) t208.length co11) t208) := ⟨by rw [← hq_]; exact (by (with_reducible repeat (first | apply Kd.R_alloc | apply Kd.R_drewN | apply Kd.R_drew)); exact HO_24.out)⟩; have n2_ : Aside0 (Kd.R Kd.string 9 wr w.heap.size (fun k_ => some k_ ≠ (.slice (some ad207) t204.length co5 : Value).ownBlock ∧ some k_ ≠ (.slice (some ad218) t208.length co11 : Value).ownBlock) (.slice (some ad223) y220.length co20) y220) := ⟨by rw [← hq_]; exact (by (with_reducible repeat (first | apply Kd.R_alloc | apply Kd.R_drewN | apply Kd.R_drew)); exact HO_33.out)⟩; have n3_ : Aside0 (Kd.S (Kd.slice 38 k38) 36 wr w.heap.size (fun k_ => some k_ ≠ (u7 : Value).ownBlock ∧ k_ ≠ gb219) u4 x4_1) := ⟨by rw [← hq_]; exact (by (with_reducible repeat (first | apply Kd.S_alloc | apply Kd.S_drewN | apply Kd.S_drew)); exact HO_4.out)⟩; have n4_ : Aside0 (Kd.R k38 38 wr w.heap.size (fun k_ => k_ ≠ gb219) u7 x7_2) := ⟨by rw [← hq_]; exact (by (with_reducible repeat (first | apply Kd.R_alloc | apply Kd.R_drewN | apply Kd.R_drew)); exact HO_7.out)⟩; have n5_ : Aside0 (wr.heap[gb219]? = some (.cells #[.string x220000_3, .string x220001_3] 38 (0, 0))) := ⟨by rw [← hq_]; exact (by (with_reducible repeat (first | refine blk_drewN ?_ _ | refine blk_drew ?_ | refine blk_alloc ?_ _)); exact BK219.out)⟩; have n6_ : Aside0 (Below w.heap.size w wr) := ⟨by rw [← hq_]; exact (by repeat (first | (with_reducible first | exact HB.out | apply below_alloc | apply pw_below_drewN | apply below_drew1 | refine below_set ?_ GE219.out) | exact HB.out))⟩; clear HO_17 HO_24 HO_33 HO_4 HO_7 BK219 HB hq_; have HO_17 := n0_; have HO_24 := n1_; have HO_33 := n2_; have HO_4 := n3_; have HO_7 := n4_; have BK219 := n5_; have HB := n6_; clear n0_ n1_ n2_ n3_ n4_ n5_ n6_)); have hcz29_0 : wr.cell? ⟨gb219, 0, none⟩ = some (.string x220000_3) := (blk_cell BK219.out 0).trans rfl; have hcz29_1 : wr.cell? ⟨gb219, 1, none⟩ = some (.string x220001_3) := (blk_cell BK219.out 1).trans rfl; have hfz29_0 := blk_frozen BK219.out 0; have hfz29_1 := blk_frozen BK219.out 1))
                                            go_ret2
                                            exact ⟨_, by first | rfl | (simp [errW_none, errW_some] <;> rfl) | (simp [*, errW_none, errW_some] <;> rfl), by first | exact Kd.S_nil _ _ _ _ _ | exact Kd.N_nil _ _ _ _ _ | exact Kd.V_nil _ _ _ _ _ | exact Kd.Q_nil _ _ _ _ _ | exact Kd.R_nil _ _ _ _ _, by repeat (first | (with_reducible first | exact HB.out | apply below_alloc | apply pw_below_drewN | apply below_drew1 | refine below_set ?_ GE219.out) | exact HB.out)⟩
                                          · rw [if_neg c28] at H
                                            have c28b0 : ((rdOf ByteArray.empty y220 x35_3).toList == ([] : List UInt8)) = false := beq_eq_false_iff_ne.mpr c28
                                            have c28b1 : ((rdOf ByteArray.empty y220 x35_3).toList != ([] : List UInt8)) = true := bne_iff_ne.mpr c28
                                            by_cases c30 : (rdOf ByteArray.empty y220 x35_3).toList = ([42] : List UInt8)
                                            · rw [if_pos c30] at H
                                              have c30b0 : ((rdOf ByteArray.empty y220 x35_3).toList == ([42] : List UInt8)) = true := beq_iff_eq.mpr c30
                                              have c30b1 : ((rdOf ByteArray.empty y220 x35_3).toList != ([42] : List UInt8)) = false := bne_eq_false_iff_eq.mpr c30
                                              clear c30
                                              by_cases c31 : ((rdOf ByteArray.empty t208 x26_2).extract ((rdOf ByteArray.empty y220 x35_3).size) (rdOf ByteArray.empty t208 x26_2).size).toList = ([] : List UInt8)
                                              · rw [if_pos c31] at H
                                                have c31b0 : (((rdOf ByteArray.empty t208 x26_2).extract ((rdOf ByteArray.empty y220 x35_3).size) (rdOf ByteArray.empty t208 x26_2).size).toList == ([] : List UInt8)) = true := beq_iff_eq.mpr c31
                                                have c31b1 : (((rdOf ByteArray.empty t208 x26_2).extract ((rdOf ByteArray.empty y220 x35_3).size) (rdOf ByteArray.empty t208 x26_2).size).toList != ([] : List UInt8)) = false := bne_eq_false_iff_eq.mpr c31
                                                clear c31
                                                by_cases c32 : x7_2.length < 4398046511104
                                                · rw [if_pos c32] at H
                                                  have LMc32 := Aside0.mk c32
                                                  clear c32
                                                  obtain ⟨y225, hy225⟩ : ∃ y_ : List (S38), y_ = (x7_2 ++ [(⟨rdOf ByteArray.empty y220 x35_3, (rdOf ByteArray.empty t208 x26_2).extract ((rdOf ByteArray.empty y220 x35_3).size) (rdOf ByteArray.empty t208 x26_2).size⟩ : S38)]) := ⟨_, rfl⟩
                                                  replace H : (impl_ReadConstraint.l1 k3 x4_1 y225 t204 (t204.length : Int) x19_1 t208 (t208.length : Int) (wrap64 (x26_2 + 1))) = some (r1, r2) := by first | (rw [hy225]; with_reducible exact H) | (have H2_ := (Option.bind_some _ _).symm.trans H; rw [hy225]; with_reducible exact H2_) | (have H2_ := (Option.bind_some _ _).symm.trans H; with_reducible exact H2_) | with_reducible exact H | (rw [hy225]; exact H) | exact H
                                                  have Ny225 := Aside0.mk hy225
                                                  clear hy225
                                                  have H' := Aside0.mk H
                                                  clear H
                                                  have p223 : 0 ≤ (x35_3 : Int) := of_decide_eq_true (by first | (with_reducible assumption) | assumption)
                                                  have q223 : x35_3 < (y220.length : Int) := of_decide_eq_true (by first | (with_reducible assumption) | assumption)
                                                  obtain ⟨ad223, e223, hx223_0⟩ := Kd.at_string (Kd.R_reads' HO_33.out).2.2 x35_3 p223 q223
                                                  cases e223
                                                  replace p223 := eq_true p223
                                                  replace q223 := eq_true q223
                                                  go_wp2_with (first | ((with_reducible refine gate_callee (f := 21) rfl ?_); refine goesL_ (some 41) rfl rfl Tryd.func21 (by kernel_rfl) rfl #[.string (rdOf ByteArray.empty t208 x26_2), .string (rdOf ByteArray.empty y220 x35_3)] rfl (by (try simp only [List.map_toArray, List.map_cons, List.map_nil]); first | done | rfl | (simp only [List.length_drop, List.length_take]; rfl)) ?_; (with_reducible refine (strings_HasPrefix.calls (rdOf ByteArray.empty t208 x26_2) (rdOf ByteArray.empty y220 x35_3) true _ A24.out).mono ?_); rintro e w' ⟨rfl, ⟨nd, rfl⟩⟩; refine ⟨_, rfl, ?_⟩; (try (rw [drewN_self wr]; generalize hq_ : World.drewN wr _ = wr; have n0_ : Aside0 (Kd.R Kd.string 9 wr w.heap.size (fun k_ => some k_ ≠ (.slice (some ad218) t208.length co11 : Value).ownBlock ∧ some k_ ≠ (.slice (some ad223) y220.length co20 : Value).ownBlock) (.slice (some ad207) t204.length co5) t204) := ⟨by rw [← hq_]; exact (by (with_reducible repeat (first | apply Kd.R_alloc | apply Kd.R_drewN | apply Kd.R_drew)); exact HO_17.out)⟩; have n1_ : Aside0 (Kd.R Kd.string 9 wr w.heap.size (fun k_ => some k_ ≠ (.slice (some ad207) t204.length co5 : Value).ownBlock ∧ some k_ ≠ (.slice (some ad223) y220.length co20 : Value).ownBlock) (.slice (some ad218) t208.length co11) t208) := ⟨by rw [← hq_]; exact (by (with_reducible repeat (first | apply Kd.R_alloc | apply Kd.R_drewN | apply Kd.R_drew)); exact HO_24.out)⟩; have n2_ : Aside0 (Kd.R Kd.string 9 wr w.heap.size (fun k_ => some k_ ≠ (.slice (some ad207) t204.length co5 : Value).ownBlock ∧ some k_ ≠ (.slice (some ad218) t208.length co11 : Value).ownBlock) (.slice (some ad223) y220.length co20) y220) := ⟨by rw [← hq_]; exact (by (with_reducible repeat (first | apply Kd.R_alloc | apply Kd.R_drewN | apply Kd.R_drew)); exact HO_33.out)⟩; have n3_ : Aside0 (Kd.S (Kd.slice 38 k38) 36 wr w.heap.size (fun k_ => some k_ ≠ (u7 : Value).ownBlock ∧ k_ ≠ gb219) u4 x4_1) := ⟨by rw [← hq_]; exact (by (with_reducible repeat (first | apply Kd.S_alloc | apply Kd.S_drewN | apply Kd.S_drew)); exact HO_4.out)⟩; have n4_ : Aside0 (Kd.R k38 38 wr w.heap.size (fun k_ => k_ ≠ gb219) u7 x7_2) := ⟨by rw [← hq_]; exact (by (with_reducible repeat (first | apply Kd.R_alloc | apply Kd.R_drewN | apply Kd.R_drew)); exact HO_7.out)⟩; have n5_ : Aside0 (wr.heap[gb219]? = some (.cells #[.string x220000_3, .string x220001_3] 38 (0, 0))) := ⟨by rw [← hq_]; exact (by (with_reducible repeat (first | refine blk_drewN ?_ _ | refine blk_drew ?_ | refine blk_alloc ?_ _)); exact BK219.out)⟩; have n6_ : Aside0 (Below w.heap.size w wr) := ⟨by rw [← hq_]; exact (by repeat (first | (with_reducible first | exact HB.out | apply below_alloc | apply pw_below_drewN | apply below_drew1 | refine below_set ?_ GE219.out) | exact HB.out))⟩; clear HO_17 HO_24 HO_33 HO_4 HO_7 BK219 HB hq_; have HO_17 := n0_; have HO_24 := n1_; have HO_33 := n2_; have HO_4 := n3_; have HO_7 := n4_; have BK219 := n5_; have HB := n6_; clear n0_ n1_ n2_ n3_ n4_ n5_ n6_)); have hcz33_0 : wr.cell? ⟨gb219, 0, none⟩ = some (.string x220000_3) := (blk_cell BK219.out 0).trans rfl; have hcz33_1 : wr.cell? ⟨gb219, 1, none⟩ = some (.string x220001_3) := (blk_cell BK219.out 1).trans rfl; have hfz33_0 := blk_frozen BK219.out 0; have hfz33_1 := blk_frozen BK219.out 1) | ((with_reducible refine gate_builtin (b := .append) (xs := #[.tmp 73, .tmp 75]) rfl ?_); (try (refine gate_guard (by rfl) ?_; dsimp only)); at_builtin; refine Kd.R_append k38 (w0 := w) w.heap.size rfl (.tmp 73) (.tmp 75) 36 38 (.agg #[(.string ⟨#[]⟩), (.string ⟨#[]⟩)]) 32 rfl Tryd.underlying36 info38 rfl (by decide) (by omega) u7 x7_2 (⟨rdOf ByteArray.empty y220 x35_3, (rdOf ByteArray.empty t208 x26_2).extract ((rdOf ByteArray.empty y220 x35_3).size) (rdOf ByteArray.empty t208 x26_2).size⟩ : S38) [.string (rdOf ByteArray.empty y220 x35_3), .string ((rdOf ByteArray.empty t208 x26_2).extract ((rdOf ByteArray.empty y220 x35_3).size) (rdOf ByteArray.empty t208 x26_2).size)] (fun k_ => k_ ≠ gb219) (fun _ => False) rfl (by first | (go_simp; done) | (go_simp; rfl)) ?aP (fun _ hk => hk.elim) ?aF ?aO ?aB ?aS ?aL ?_; (case aP => exact k38_mkM _ _ _ (⟨rdOf ByteArray.empty y220 x35_3, (rdOf ByteArray.empty t208 x26_2).extract ((rdOf ByteArray.empty y220 x35_3).size) (rdOf ByteArray.empty t208 x26_2).size⟩ : S38)); (case aB => exact (by repeat (first | (with_reducible first | exact HB.out | apply below_alloc | apply pw_below_drewN | apply below_drew1 | refine below_set ?_ GE219.out) | exact HB.out))); (case aF => exact (fun k_ hk => Kd.freshB (g := gb219) (o := .cells #[.string (rdOf ByteArray.empty y220 x35_3), .string ((rdOf ByteArray.empty t208 x26_2).extract ((rdOf ByteArray.empty y220 x35_3).size) (rdOf ByteArray.empty t208 x26_2).size)] 38 (0, 0)) (by (with_reducible repeat (first | refine blk_drewN ?_ _ | refine blk_drew ?_ | refine blk_alloc ?_ _)); refine blk_put (cs := #[.string (rdOf ByteArray.empty y220 x35_3), .string x220001_3]) ?_ 1 _ rfl; (with_reducible repeat (first | refine blk_drewN ?_ _ | refine blk_drew ?_ | refine blk_alloc ?_ _)); refine blk_put (cs := #[.string x220000_3, .string x220001_3]) ?_ 0 _ rfl; (with_reducible repeat (first | refine blk_drewN ?_ _ | refine blk_drew ?_ | refine blk_alloc ?_ _)); exact BK219.out) k_ hk)); (case aO => exact (by (with_reducible repeat (first | apply Kd.R_alloc | apply Kd.R_drewN | apply Kd.R_drew)); exact Kd.R_mono (Kd.R_far (p := ⟨gb219, 1, none⟩) (Kd.R_far (p := ⟨gb219, 0, none⟩) (Kd.R_mono HO_7.out (fun k_ hk => (⟨hk, hk⟩ : _ ∧ k_ ≠ gb219))) (fun _ hk => hk.2) (.string (rdOf ByteArray.empty y220 x35_3))) (fun _ hk => hk.2) (.string ((rdOf ByteArray.empty t208 x26_2).extract ((rdOf ByteArray.empty y220 x35_3).size) (rdOf ByteArray.empty t208 x26_2).size))) (fun _ hk => hk.1))); (case aS => exact (below_size (by repeat (first | (with_reducible first | exact HB.out | apply below_alloc | apply pw_below_drewN | apply below_drew1 | refine below_set ?_ GE219.out) | exact HB.out)))); (case aL => have := LMc32.out; omega); intro v226 w34 ho hb hg hat; rw [← Ny225.out] at ho; have n0_ := Aside0.mk (Kd.S_after (ok := (fun k_ => k_ ≠ gb219)) (by (with_reducible repeat (first | apply Kd.S_alloc | apply Kd.S_drewN | apply Kd.S_drew)); exact Kd.S_mono (Kd.S_far (p := ⟨gb219, 1, none⟩) (Kd.S_far (p := ⟨gb219, 0, none⟩) (Kd.S_mono HO_4.out (fun k_ hk => (⟨hk, hk.2⟩ : _ ∧ k_ ≠ gb219))) (fun _ hk => hk.2) (.string (rdOf ByteArray.empty y220 x35_3))) (fun _ hk => hk.2) (.string ((rdOf ByteArray.empty t208 x26_2).extract ((rdOf ByteArray.empty y220 x35_3).size) (rdOf ByteArray.empty t208 x26_2).size))) (fun _ hk => ⟨hk.1.2, hk.1.1⟩)) hg hat); have n1_ := Aside0.mk (Kd.R_over' (by (with_reducible repeat (first | apply Kd.R_alloc | apply Kd.R_drewN | apply Kd.R_drew)); exact (Kd.R_mono (Kd.R_far (p := ⟨gb219, 1, none⟩) (Kd.R_far (p := ⟨gb219, 0, none⟩) (Kd.R_types HO_17.out BK219.out (by decide)) (fun _ hk => hk.2) (.string (rdOf ByteArray.empty y220 x35_3))) (fun _ hk => hk.2) (.string ((rdOf ByteArray.empty t208 x26_2).extract ((rdOf ByteArray.empty y220 x35_3).size) (rdOf ByteArray.empty t208 x26_2).size))) (fun _ h_ => h_.1))) (Kd.R_typed (by (with_reducible repeat (first | apply Kd.R_alloc | apply Kd.R_drewN | apply Kd.R_drew)); exact (Kd.R_mono (Kd.R_far (p := ⟨gb219, 1, none⟩) (Kd.R_far (p := ⟨gb219, 0, none⟩) (Kd.R_mono HO_7.out (fun k_ hk => (⟨hk, hk⟩ : _ ∧ k_ ≠ gb219))) (fun _ hk => hk.2) (.string (rdOf ByteArray.empty y220 x35_3))) (fun _ hk => hk.2) (.string ((rdOf ByteArray.empty t208 x26_2).extract ((rdOf ByteArray.empty y220 x35_3).size) (rdOf ByteArray.empty t208 x26_2).size))) (fun _ h_ => h_.1)))) (by decide) hg); have n2_ := Aside0.mk (Kd.R_over' (by (with_reducible repeat (first | apply Kd.R_alloc | apply Kd.R_drewN | apply Kd.R_drew)); exact (Kd.R_mono (Kd.R_far (p := ⟨gb219, 1, none⟩) (Kd.R_far (p := ⟨gb219, 0, none⟩) (Kd.R_types HO_24.out BK219.out (by decide)) (fun _ hk => hk.2) (.string (rdOf ByteArray.empty y220 x35_3))) (fun _ hk => hk.2) (.string ((rdOf ByteArray.empty t208 x26_2).extract ((rdOf ByteArray.empty y220 x35_3).size) (rdOf ByteArray.empty t208 x26_2).size))) (fun _ h_ => h_.1))) (Kd.R_typed (by (with_reducible repeat (first | apply Kd.R_alloc | apply Kd.R_drewN | apply Kd.R_drew)); exact (Kd.R_mono (Kd.R_far (p := ⟨gb219, 1, none⟩) (Kd.R_far (p := ⟨gb219, 0, none⟩) (Kd.R_mono HO_7.out (fun k_ hk => (⟨hk, hk⟩ : _ ∧ k_ ≠ gb219))) (fun _ hk => hk.2) (.string (rdOf ByteArray.empty y220 x35_3))) (fun _ hk => hk.2) (.string ((rdOf ByteArray.empty t208 x26_2).extract ((rdOf ByteArray.empty y220 x35_3).size) (rdOf ByteArray.empty t208 x26_2).size))) (fun _ h_ => h_.1)))) (by decide) hg); have n3_ := Aside0.mk (Kd.R_over' (by (with_reducible repeat (first | apply Kd.R_alloc | apply Kd.R_drewN | apply Kd.R_drew)); exact (Kd.R_mono (Kd.R_far (p := ⟨gb219, 1, none⟩) (Kd.R_far (p := ⟨gb219, 0, none⟩) (Kd.R_types HO_33.out BK219.out (by decide)) (fun _ hk => hk.2) (.string (rdOf ByteArray.empty y220 x35_3))) (fun _ hk => hk.2) (.string ((rdOf ByteArray.empty t208 x26_2).extract ((rdOf ByteArray.empty y220 x35_3).size) (rdOf ByteArray.empty t208 x26_2).size))) (fun _ h_ => h_.1))) (Kd.R_typed (by (with_reducible repeat (first | apply Kd.R_alloc | apply Kd.R_drewN | apply Kd.R_drew)); exact (Kd.R_mono (Kd.R_far (p := ⟨gb219, 1, none⟩) (Kd.R_far (p := ⟨gb219, 0, none⟩) (Kd.R_mono HO_7.out (fun k_ hk => (⟨hk, hk⟩ : _ ∧ k_ ≠ gb219))) (fun _ hk => hk.2) (.string (rdOf ByteArray.empty y220 x35_3))) (fun _ hk => hk.2) (.string ((rdOf ByteArray.empty t208 x26_2).extract ((rdOf ByteArray.empty y220 x35_3).size) (rdOf ByteArray.empty t208 x26_2).size))) (fun _ h_ => h_.1)))) (by decide) hg); have n4_ := Aside0.mk (blk_grown (g := gb219) (o := .cells #[.string (rdOf ByteArray.empty y220 x35_3), .string ((rdOf ByteArray.empty t208 x26_2).extract ((rdOf ByteArray.empty y220 x35_3).size) (rdOf ByteArray.empty t208 x26_2).size)] 38 (0, 0)) (by (with_reducible repeat (first | refine blk_drewN ?_ _ | refine blk_drew ?_ | refine blk_alloc ?_ _)); refine blk_put (cs := #[.string (rdOf ByteArray.empty y220 x35_3), .string x220001_3]) ?_ 1 _ rfl; (with_reducible repeat (first | refine blk_drewN ?_ _ | refine blk_drew ?_ | refine blk_alloc ?_ _)); refine blk_put (cs := #[.string x220000_3, .string x220001_3]) ?_ 0 _ rfl; (with_reducible repeat (first | refine blk_drewN ?_ _ | refine blk_drew ?_ | refine blk_alloc ?_ _)); exact BK219.out) hg (Kd.R_away HO_7.out (fun _ hk => hk))); have n5_ := Aside0.mk (hb); have n6_ := Aside0.mk (ho); clear HO_4; clear HO_17; clear HO_24; clear HO_33; clear BK219; clear HB; clear HO_7; have HO_4 := n0_; have HO_17 := n1_; have HO_24 := n2_; have HO_33 := n3_; have BK219 := n4_; have HB := n5_; have HO227 := n6_; clear n0_ n1_ n2_ n3_ n4_ n5_ n6_; clear ho hb hg hat))
                                                  go_roundg k3
                                                  case measure => have := HK1.out; have := HK2.out; have := HK3.out; omega
                                                  case rel => exact ⟨(y225), (wrap64 (x26_2 + 1)), (by first | rfl | (simp; done) | (simp [*]; done)), H', ⟨by have := HK1.out; have := HK2.out; have := HK3.out; omega⟩, ⟨by (with_reducible repeat (first | apply Kd.S_alloc | apply Kd.S_drewN | apply Kd.S_drew)); exact Kd.S_mono HO_4.out (fun _ hk => hk.2)⟩, ⟨by (with_reducible repeat (first | apply Kd.R_alloc | apply Kd.R_drewN | apply Kd.R_drew)); exact Kd.R_mono HO227.out (fun _ hk => trivial)⟩, ⟨by (with_reducible repeat (first | apply Kd.R_alloc | apply Kd.R_drewN | apply Kd.R_drew)); exact Kd.R_mono HO_17.out (fun _ hk => hk.1)⟩, ⟨by (with_reducible repeat (first | apply Kd.R_alloc | apply Kd.R_drewN | apply Kd.R_drew)); exact Kd.R_mono HO_24.out (fun _ hk => hk.1)⟩, ⟨by repeat (first | (with_reducible first | exact HB.out | apply below_alloc | apply pw_below_drewN | apply below_drew1 | refine below_set ?_ GE219.out) | exact HB.out)⟩⟩
                                                · rw [if_neg c32] at H
                                                  exact absurd H (by simp)
                                              · rw [if_neg c31] at H
                                                have c31b0 : (((rdOf ByteArray.empty t208 x26_2).extract ((rdOf ByteArray.empty y220 x35_3).size) (rdOf ByteArray.empty t208 x26_2).size).toList == ([] : List UInt8)) = false := beq_eq_false_iff_ne.mpr c31
                                                have c31b1 : (((rdOf ByteArray.empty t208 x26_2).extract ((rdOf ByteArray.empty y220 x35_3).size) (rdOf ByteArray.empty t208 x26_2).size).toList != ([] : List UInt8)) = true := bne_iff_ne.mpr c31
                                                simp only [Option.some.injEq, Prod.mk.injEq] at H
                                                obtain ⟨rfl, rfl⟩ := H
                                                have p223 : 0 ≤ (x35_3 : Int) := of_decide_eq_true (by first | (with_reducible assumption) | assumption)
                                                have q223 : x35_3 < (y220.length : Int) := of_decide_eq_true (by first | (with_reducible assumption) | assumption)
                                                obtain ⟨ad223, e223, hx223_0⟩ := Kd.at_string (Kd.R_reads' HO_33.out).2.2 x35_3 p223 q223
                                                cases e223
                                                replace p223 := eq_true p223
                                                replace q223 := eq_true q223
                                                go_wp2_with (first | ((with_reducible refine gate_callee (f := 21) rfl ?_); refine goesL_ (some 41) rfl rfl Tryd.func21 (by kernel_rfl) rfl #[.string (rdOf ByteArray.empty t208 x26_2), .string (rdOf ByteArray.empty y220 x35_3)] rfl (by (try simp only [List.map_toArray, List.map_cons, List.map_nil]); first | done | rfl | (simp only [List.length_drop, List.length_take]; rfl)) ?_; (with_reducible refine (strings_HasPrefix.calls (rdOf ByteArray.empty t208 x26_2) (rdOf ByteArray.empty y220 x35_3) true _ A24.out).mono ?_); rintro e w' ⟨rfl, ⟨nd, rfl⟩⟩; refine ⟨_, rfl, ?_⟩; (try (rw [drewN_self wr]; generalize hq_ : World.drewN wr _ = wr; have n0_ : Aside0 (Kd.R Kd.string 9 wr w.heap.size (fun k_ => some k_ ≠ (.slice (some ad218) t208.length co11 : Value).ownBlock ∧ some k_ ≠ (.slice (some ad223) y220.length co20 : Value).ownBlock) (.slice (some ad207) t204.length co5) t204) := ⟨by rw [← hq_]; exact (by (with_reducible repeat (first | apply Kd.R_alloc | apply Kd.R_drewN | apply Kd.R_drew)); exact HO_17.out)⟩; have n1_ : Aside0 (Kd.R Kd.string 9 wr w.heap.size (fun k_ => some k_ ≠ (.slice (some ad207) t204.length co5 : Value).ownBlock ∧ some k_ ≠ (.slice (some ad223) y220.length co20 : Value).ownBlock) (.slice (some ad218) t208.length co11) t208) := ⟨by rw [← hq_]; exact (by (with_reducible repeat (first | apply Kd.R_alloc | apply Kd.R_drewN | apply Kd.R_drew)); exact HO_24.out)⟩; have n2_ : Aside0 (Kd.R Kd.string 9 wr w.heap.size (fun k_ => some k_ ≠ (.slice (some ad207) t204.length co5 : Value).ownBlock ∧ some k_ ≠ (.slice (some ad218) t208.length co11 : Value).ownBlock) (.slice (some ad223) y220.length co20) y220) := ⟨by rw [← hq_]; exact (by (with_reducible repeat (first | apply Kd.R_alloc | apply Kd.R_drewN | apply Kd.R_drew)); exact HO_33.out)⟩; have n3_ : Aside0 (Kd.S (Kd.slice 38 k38) 36 wr w.heap.size (fun k_ => some k_ ≠ (u7 : Value).ownBlock ∧ k_ ≠ gb219) u4 x4_1) := ⟨by rw [← hq_]; exact (by (with_reducible repeat (first | apply Kd.S_alloc | apply Kd.S_drewN | apply Kd.S_drew)); exact HO_4.out)⟩; have n4_ : Aside0 (Kd.R k38 38 wr w.heap.size (fun k_ => k_ ≠ gb219) u7 x7_2) := ⟨by rw [← hq_]; exact (by (with_reducible repeat (first | apply Kd.R_alloc | apply Kd.R_drewN | apply Kd.R_drew)); exact HO_7.out)⟩; have n5_ : Aside0 (wr.heap[gb219]? = some (.cells #[.string x220000_3, .string x220001_3] 38 (0, 0))) := ⟨by rw [← hq_]; exact (by (with_reducible repeat (first | refine blk_drewN ?_ _ | refine blk_drew ?_ | refine blk_alloc ?_ _)); exact BK219.out)⟩; have n6_ : Aside0 (Below w.heap.size w wr) := ⟨by rw [← hq_]; exact (by repeat (first | (with_reducible first | exact HB.out | apply below_alloc | apply pw_below_drewN | apply below_drew1 | refine below_set ?_ GE219.out) | exact HB.out))⟩; clear HO_17 HO_24 HO_33 HO_4 HO_7 BK219 HB hq_; have HO_17 := n0_; have HO_24 := n1_; have HO_33 := n2_; have HO_4 := n3_; have HO_7 := n4_; have BK219 := n5_; have HB := n6_; clear n0_ n1_ n2_ n3_ n4_ n5_ n6_)); have hcz35_0 : wr.cell? ⟨gb219, 0, none⟩ = some (.string x220000_3) := (blk_cell BK219.out 0).trans rfl; have hcz35_1 : wr.cell? ⟨gb219, 1, none⟩ = some (.string x220001_3) := (blk_cell BK219.out 1).trans rfl; have hfz35_0 := blk_frozen BK219.out 0; have hfz35_1 := blk_frozen BK219.out 1))
                                                go_ret2
                                                exact ⟨_, by first | rfl | (simp [errW_none, errW_some] <;> rfl) | (simp [*, errW_none, errW_some] <;> rfl), by first | exact Kd.S_nil _ _ _ _ _ | exact Kd.N_nil _ _ _ _ _ | exact Kd.V_nil _ _ _ _ _ | exact Kd.Q_nil _ _ _ _ _ | exact Kd.R_nil _ _ _ _ _, by repeat (first | (with_reducible first | exact HB.out | apply below_alloc | apply pw_below_drewN | apply below_drew1 | refine below_set ?_ GE219.out) | exact HB.out)⟩
                                            · rw [if_neg c30] at H
                                              have c30b0 : ((rdOf ByteArray.empty y220 x35_3).toList == ([42] : List UInt8)) = false := beq_eq_false_iff_ne.mpr c30
                                              have c30b1 : ((rdOf ByteArray.empty y220 x35_3).toList != ([42] : List UInt8)) = true := bne_iff_ne.mpr c30
                                              replace H := Option.bind_eq_some_iff.mp H
                                              obtain ⟨t228, A360, H⟩ := H
                                              replace H : (if t228 = true then (if x7_2.length < 4398046511104 then (impl_ReadConstraint.l1 k3 x4_1 (x7_2 ++ [(⟨rdOf ByteArray.empty y220 x35_3, (rdOf ByteArray.empty t208 x26_2).extract ((rdOf ByteArray.empty y220 x35_3).size) (rdOf ByteArray.empty t208 x26_2).size⟩ : S38)]) t204 (t204.length : Int) x19_1 t208 (t208.length : Int) (wrap64 (x26_2 + 1))) else (none)) else (some (([] : List (List (S38))), false))) = some (r1, r2) := H
                                              have A36 := Aside0.mk A360
                                              clear A360
                                              by_cases c37 : t228 = true
                                              · subst c37
                                                have H1 : (if x7_2.length < 4398046511104 then (impl_ReadConstraint.l1 k3 x4_1 (x7_2 ++ [(⟨rdOf ByteArray.empty y220 x35_3, (rdOf ByteArray.empty t208 x26_2).extract ((rdOf ByteArray.empty y220 x35_3).size) (rdOf ByteArray.empty t208 x26_2).size⟩ : S38)]) t204 (t204.length : Int) x19_1 t208 (t208.length : Int) (wrap64 (x26_2 + 1))) else (none)) = some (r1, r2) := by rw [if_pos rfl] at H; exact H
                                                clear H
                                                have H := H1
                                                clear H1
                                                by_cases c38 : x7_2.length < 4398046511104
                                                · rw [if_pos c38] at H
                                                  have LMc38 := Aside0.mk c38
                                                  clear c38
                                                  obtain ⟨y229, hy229⟩ : ∃ y_ : List (S38), y_ = (x7_2 ++ [(⟨rdOf ByteArray.empty y220 x35_3, (rdOf ByteArray.empty t208 x26_2).extract ((rdOf ByteArray.empty y220 x35_3).size) (rdOf ByteArray.empty t208 x26_2).size⟩ : S38)]) := ⟨_, rfl⟩
                                                  replace H : (impl_ReadConstraint.l1 k3 x4_1 y229 t204 (t204.length : Int) x19_1 t208 (t208.length : Int) (wrap64 (x26_2 + 1))) = some (r1, r2) := by first | (rw [hy229]; with_reducible exact H) | (have H2_ := (Option.bind_some _ _).symm.trans H; rw [hy229]; with_reducible exact H2_) | (have H2_ := (Option.bind_some _ _).symm.trans H; with_reducible exact H2_) | with_reducible exact H | (rw [hy229]; exact H) | exact H
                                                  have Ny229 := Aside0.mk hy229
                                                  clear hy229
                                                  have H' := Aside0.mk H
                                                  clear H
                                                  have p223 : 0 ≤ (x35_3 : Int) := of_decide_eq_true (by first | (with_reducible assumption) | assumption)
                                                  have q223 : x35_3 < (y220.length : Int) := of_decide_eq_true (by first | (with_reducible assumption) | assumption)
                                                  obtain ⟨ad223, e223, hx223_0⟩ := Kd.at_string (Kd.R_reads' HO_33.out).2.2 x35_3 p223 q223
                                                  cases e223
                                                  replace p223 := eq_true p223
                                                  replace q223 := eq_true q223
                                                  go_wp2_with (first | ((with_reducible refine gate_callee (f := 21) rfl ?_); refine goesL_ (some 41) rfl rfl Tryd.func21 (by kernel_rfl) rfl #[.string (rdOf ByteArray.empty t208 x26_2), .string (rdOf ByteArray.empty y220 x35_3)] rfl (by (try simp only [List.map_toArray, List.map_cons, List.map_nil]); first | done | rfl | (simp only [List.length_drop, List.length_take]; rfl)) ?_; (with_reducible refine (strings_HasPrefix.calls (rdOf ByteArray.empty t208 x26_2) (rdOf ByteArray.empty y220 x35_3) true _ A24.out).mono ?_); rintro e w' ⟨rfl, ⟨nd, rfl⟩⟩; refine ⟨_, rfl, ?_⟩; (try (rw [drewN_self wr]; generalize hq_ : World.drewN wr _ = wr; have n0_ : Aside0 (Kd.R Kd.string 9 wr w.heap.size (fun k_ => some k_ ≠ (.slice (some ad218) t208.length co11 : Value).ownBlock ∧ some k_ ≠ (.slice (some ad223) y220.length co20 : Value).ownBlock) (.slice (some ad207) t204.length co5) t204) := ⟨by rw [← hq_]; exact (by (with_reducible repeat (first | apply Kd.R_alloc | apply Kd.R_drewN | apply Kd.R_drew)); exact HO_17.out)⟩; have n1_ : Aside0 (Kd.R Kd.string 9 wr w.heap.size (fun k_ => some k_ ≠ (.slice (some ad207) t204.length co5 : Value).ownBlock ∧ some k_ ≠ (.slice (some ad223) y220.length co20 : Value).ownBlock) (.slice (some ad218) t208.length co11) t208) := ⟨by rw [← hq_]; exact (by (with_reducible repeat (first | apply Kd.R_alloc | apply Kd.R_drewN | apply Kd.R_drew)); exact HO_24.out)⟩; have n2_ : Aside0 (Kd.R Kd.string 9 wr w.heap.size (fun k_ => some k_ ≠ (.slice (some ad207) t204.length co5 : Value).ownBlock ∧ some k_ ≠ (.slice (some ad218) t208.length co11 : Value).ownBlock) (.slice (some ad223) y220.length co20) y220) := ⟨by rw [← hq_]; exact (by (with_reducible repeat (first | apply Kd.R_alloc | apply Kd.R_drewN | apply Kd.R_drew)); exact HO_33.out)⟩; have n3_ : Aside0 (Kd.S (Kd.slice 38 k38) 36 wr w.heap.size (fun k_ => some k_ ≠ (u7 : Value).ownBlock ∧ k_ ≠ gb219) u4 x4_1) := ⟨by rw [← hq_]; exact (by (with_reducible repeat (first | apply Kd.S_alloc | apply Kd.S_drewN | apply Kd.S_drew)); exact HO_4.out)⟩; have n4_ : Aside0 (Kd.R k38 38 wr w.heap.size (fun k_ => k_ ≠ gb219) u7 x7_2) := ⟨by rw [← hq_]; exact (by (with_reducible repeat (first | apply Kd.R_alloc | apply Kd.R_drewN | apply Kd.R_drew)); exact HO_7.out)⟩; have n5_ : Aside0 (wr.heap[gb219]? = some (.cells #[.string x220000_3, .string x220001_3] 38 (0, 0))) := ⟨by rw [← hq_]; exact (by (with_reducible repeat (first | refine blk_drewN ?_ _ | refine blk_drew ?_ | refine blk_alloc ?_ _)); exact BK219.out)⟩; have n6_ : Aside0 (Below w.heap.size w wr) := ⟨by rw [← hq_]; exact (by repeat (first | (with_reducible first | exact HB.out | apply below_alloc | apply pw_below_drewN | apply below_drew1 | refine below_set ?_ GE219.out) | exact HB.out))⟩; clear HO_17 HO_24 HO_33 HO_4 HO_7 BK219 HB hq_; have HO_17 := n0_; have HO_24 := n1_; have HO_33 := n2_; have HO_4 := n3_; have HO_7 := n4_; have BK219 := n5_; have HB := n6_; clear n0_ n1_ n2_ n3_ n4_ n5_ n6_)); have hcz39_0 : wr.cell? ⟨gb219, 0, none⟩ = some (.string x220000_3) := (blk_cell BK219.out 0).trans rfl; have hcz39_1 : wr.cell? ⟨gb219, 1, none⟩ = some (.string x220001_3) := (blk_cell BK219.out 1).trans rfl; have hfz39_0 := blk_frozen BK219.out 0; have hfz39_1 := blk_frozen BK219.out 1) | (go_at_call 22; (with_reducible refine (impl_VersionOk.calls k3 ((rdOf ByteArray.empty t208 x26_2).extract ((rdOf ByteArray.empty y220 x35_3).size) (rdOf ByteArray.empty t208 x26_2).size) true _ A36.out).mono ?_); rintro e w40 ⟨rfl, hb⟩; have n0_ := Aside0.mk (Kd.S_below (by (with_reducible repeat (first | apply Kd.S_alloc | apply Kd.S_drewN | apply Kd.S_drew)); exact (Kd.S_mono (Kd.S_far (p := ⟨gb219, 1, none⟩) (Kd.S_far (p := ⟨gb219, 0, none⟩) (Kd.S_mono HO_4.out (fun k_ hk => (⟨hk, hk.2⟩ : _ ∧ k_ ≠ gb219))) (fun _ hk => hk.2) (.string (rdOf ByteArray.empty y220 x35_3))) (fun _ hk => hk.2) (.string ((rdOf ByteArray.empty t208 x26_2).extract ((rdOf ByteArray.empty y220 x35_3).size) (rdOf ByteArray.empty t208 x26_2).size))) (fun _ h_ => h_.1))) hb); have n1_ := Aside0.mk (Kd.R_below (by (with_reducible repeat (first | apply Kd.R_alloc | apply Kd.R_drewN | apply Kd.R_drew)); exact (Kd.R_mono (Kd.R_far (p := ⟨gb219, 1, none⟩) (Kd.R_far (p := ⟨gb219, 0, none⟩) (Kd.R_mono HO_7.out (fun k_ hk => (⟨hk, hk⟩ : _ ∧ k_ ≠ gb219))) (fun _ hk => hk.2) (.string (rdOf ByteArray.empty y220 x35_3))) (fun _ hk => hk.2) (.string ((rdOf ByteArray.empty t208 x26_2).extract ((rdOf ByteArray.empty y220 x35_3).size) (rdOf ByteArray.empty t208 x26_2).size))) (fun _ h_ => h_.1))) hb); have n2_ := Aside0.mk (Kd.R_below (by (with_reducible repeat (first | apply Kd.R_alloc | apply Kd.R_drewN | apply Kd.R_drew)); exact (Kd.R_mono (Kd.R_far (p := ⟨gb219, 1, none⟩) (Kd.R_far (p := ⟨gb219, 0, none⟩) (Kd.R_types HO_17.out BK219.out (by decide)) (fun _ hk => hk.2) (.string (rdOf ByteArray.empty y220 x35_3))) (fun _ hk => hk.2) (.string ((rdOf ByteArray.empty t208 x26_2).extract ((rdOf ByteArray.empty y220 x35_3).size) (rdOf ByteArray.empty t208 x26_2).size))) (fun _ h_ => h_.1))) hb); have n3_ := Aside0.mk (Kd.R_below (by (with_reducible repeat (first | apply Kd.R_alloc | apply Kd.R_drewN | apply Kd.R_drew)); exact (Kd.R_mono (Kd.R_far (p := ⟨gb219, 1, none⟩) (Kd.R_far (p := ⟨gb219, 0, none⟩) (Kd.R_types HO_24.out BK219.out (by decide)) (fun _ hk => hk.2) (.string (rdOf ByteArray.empty y220 x35_3))) (fun _ hk => hk.2) (.string ((rdOf ByteArray.empty t208 x26_2).extract ((rdOf ByteArray.empty y220 x35_3).size) (rdOf ByteArray.empty t208 x26_2).size))) (fun _ h_ => h_.1))) hb); have n4_ := Aside0.mk (Kd.R_below (by (with_reducible repeat (first | apply Kd.R_alloc | apply Kd.R_drewN | apply Kd.R_drew)); exact (Kd.R_mono (Kd.R_far (p := ⟨gb219, 1, none⟩) (Kd.R_far (p := ⟨gb219, 0, none⟩) (Kd.R_types HO_33.out BK219.out (by decide)) (fun _ hk => hk.2) (.string (rdOf ByteArray.empty y220 x35_3))) (fun _ hk => hk.2) (.string ((rdOf ByteArray.empty t208 x26_2).extract ((rdOf ByteArray.empty y220 x35_3).size) (rdOf ByteArray.empty t208 x26_2).size))) (fun _ h_ => h_.1))) hb); have n5_ := Aside0.mk (blk_below (g := gb219) (o := .cells #[.string (rdOf ByteArray.empty y220 x35_3), .string ((rdOf ByteArray.empty t208 x26_2).extract ((rdOf ByteArray.empty y220 x35_3).size) (rdOf ByteArray.empty t208 x26_2).size)] 38 (0, 0)) (by (with_reducible repeat (first | refine blk_drewN ?_ _ | refine blk_drew ?_ | refine blk_alloc ?_ _)); refine blk_put (cs := #[.string (rdOf ByteArray.empty y220 x35_3), .string x220001_3]) ?_ 1 _ rfl; (with_reducible repeat (first | refine blk_drewN ?_ _ | refine blk_drew ?_ | refine blk_alloc ?_ _)); refine blk_put (cs := #[.string x220000_3, .string x220001_3]) ?_ 0 _ rfl; (with_reducible repeat (first | refine blk_drewN ?_ _ | refine blk_drew ?_ | refine blk_alloc ?_ _)); exact BK219.out) hb); have n6_ := Aside0.mk (below_step (by repeat (first | (with_reducible first | exact HB.out | apply below_alloc | apply pw_below_drewN | apply below_drew1 | refine below_set ?_ GE219.out) | exact HB.out)) hb); clear HO_4; clear HO_7; clear HO_17; clear HO_24; clear HO_33; clear BK219; clear HB; have HO_4 := n0_; have HO_7 := n1_; have HO_17 := n2_; have HO_24 := n3_; have HO_33 := n4_; have BK219 := n5_; have HB := n6_; clear n0_ n1_ n2_ n3_ n4_ n5_ n6_; (try clear hb); (try clear hb2); (try clear hk); (try clear hi); have hcz41_0 : w40.cell? ⟨gb219, 0, none⟩ = some (.string (rdOf ByteArray.empty y220 x35_3)) := (blk_cell BK219.out 0).trans rfl; have hcz41_1 : w40.cell? ⟨gb219, 1, none⟩ = some (.string ((rdOf ByteArray.empty t208 x26_2).extract ((rdOf ByteArray.empty y220 x35_3).size) (rdOf ByteArray.empty t208 x26_2).size)) := (blk_cell BK219.out 1).trans rfl; have hfz41_0 := blk_frozen BK219.out 0; have hfz41_1 := blk_frozen BK219.out 1) | ((with_reducible refine gate_builtin (b := .append) (xs := #[.tmp 73, .tmp 75]) rfl ?_); (try (refine gate_guard (by rfl) ?_; dsimp only)); at_builtin; refine Kd.R_append k38 (w0 := w) w.heap.size rfl (.tmp 73) (.tmp 75) 36 38 (.agg #[(.string ⟨#[]⟩), (.string ⟨#[]⟩)]) 32 rfl Tryd.underlying36 info38 rfl (by decide) (by omega) u7 x7_2 (⟨rdOf ByteArray.empty y220 x35_3, (rdOf ByteArray.empty t208 x26_2).extract ((rdOf ByteArray.empty y220 x35_3).size) (rdOf ByteArray.empty t208 x26_2).size⟩ : S38) [.string (rdOf ByteArray.empty y220 x35_3), .string ((rdOf ByteArray.empty t208 x26_2).extract ((rdOf ByteArray.empty y220 x35_3).size) (rdOf ByteArray.empty t208 x26_2).size)] (fun k_ => k_ ≠ gb219) (fun _ => False) rfl rfl ?aP (fun _ hk => hk.elim) ?aF ?aO ?aB ?aS ?aL ?_; (case aP => exact k38_mkM _ _ _ (⟨rdOf ByteArray.empty y220 x35_3, (rdOf ByteArray.empty t208 x26_2).extract ((rdOf ByteArray.empty y220 x35_3).size) (rdOf ByteArray.empty t208 x26_2).size⟩ : S38)); (case aB => exact (by repeat (first | (with_reducible first | exact HB.out | apply below_alloc | apply pw_below_drewN | apply below_drew1 | refine below_set ?_ GE219.out) | exact HB.out))); (case aF => exact (fun k_ hk => Kd.freshB (g := gb219) (o := .cells #[.string (rdOf ByteArray.empty y220 x35_3), .string ((rdOf ByteArray.empty t208 x26_2).extract ((rdOf ByteArray.empty y220 x35_3).size) (rdOf ByteArray.empty t208 x26_2).size)] 38 (0, 0)) (by (with_reducible repeat (first | refine blk_drewN ?_ _ | refine blk_drew ?_ | refine blk_alloc ?_ _)); exact BK219.out) k_ hk)); (case aO => exact (by (with_reducible repeat (first | apply Kd.R_alloc | apply Kd.R_drewN | apply Kd.R_drew)); exact HO_7.out)); (case aS => exact (below_size (by repeat (first | (with_reducible first | exact HB.out | apply below_alloc | apply pw_below_drewN | apply below_drew1 | refine below_set ?_ GE219.out) | exact HB.out)))); (case aL => have := LMc38.out; omega); intro v230 w42 ho hb hg hat; rw [← Ny229.out] at ho; have n0_ := Aside0.mk (Kd.S_after (ok := (fun k_ => k_ ≠ gb219)) (by (with_reducible repeat (first | apply Kd.S_alloc | apply Kd.S_drewN | apply Kd.S_drew)); exact Kd.S_mono HO_4.out (fun _ hk => ⟨hk.2, hk.1⟩)) hg hat); have n1_ := Aside0.mk (Kd.R_over' (by (with_reducible repeat (first | apply Kd.R_alloc | apply Kd.R_drewN | apply Kd.R_drew)); exact HO_17.out) (Kd.R_typed (by (with_reducible repeat (first | apply Kd.R_alloc | apply Kd.R_drewN | apply Kd.R_drew)); exact HO_7.out)) (by decide) hg); have n2_ := Aside0.mk (Kd.R_over' (by (with_reducible repeat (first | apply Kd.R_alloc | apply Kd.R_drewN | apply Kd.R_drew)); exact HO_24.out) (Kd.R_typed (by (with_reducible repeat (first | apply Kd.R_alloc | apply Kd.R_drewN | apply Kd.R_drew)); exact HO_7.out)) (by decide) hg); have n3_ := Aside0.mk (Kd.R_over' (by (with_reducible repeat (first | apply Kd.R_alloc | apply Kd.R_drewN | apply Kd.R_drew)); exact HO_33.out) (Kd.R_typed (by (with_reducible repeat (first | apply Kd.R_alloc | apply Kd.R_drewN | apply Kd.R_drew)); exact HO_7.out)) (by decide) hg); have n4_ := Aside0.mk (blk_grown (g := gb219) (o := .cells #[.string (rdOf ByteArray.empty y220 x35_3), .string ((rdOf ByteArray.empty t208 x26_2).extract ((rdOf ByteArray.empty y220 x35_3).size) (rdOf ByteArray.empty t208 x26_2).size)] 38 (0, 0)) (by (with_reducible repeat (first | refine blk_drewN ?_ _ | refine blk_drew ?_ | refine blk_alloc ?_ _)); exact BK219.out) hg (Kd.R_away HO_7.out (fun _ hk => hk))); have n5_ := Aside0.mk (hb); have n6_ := Aside0.mk (ho); clear HO_4; clear HO_17; clear HO_24; clear HO_33; clear BK219; clear HB; clear HO_7; have HO_4 := n0_; have HO_17 := n1_; have HO_24 := n2_; have HO_33 := n3_; have BK219 := n4_; have HB := n5_; have HO231 := n6_; clear n0_ n1_ n2_ n3_ n4_ n5_ n6_; clear ho hb hg hat))
                                                  go_roundg k3
                                                  case measure => have := HK1.out; have := HK2.out; have := HK3.out; omega
                                                  case rel => exact ⟨(y229), (wrap64 (x26_2 + 1)), (by first | rfl | (simp; done) | (simp [*]; done)), H', ⟨by have := HK1.out; have := HK2.out; have := HK3.out; omega⟩, ⟨by (with_reducible repeat (first | apply Kd.S_alloc | apply Kd.S_drewN | apply Kd.S_drew)); exact Kd.S_mono HO_4.out (fun _ hk => hk.2)⟩, ⟨by (with_reducible repeat (first | apply Kd.R_alloc | apply Kd.R_drewN | apply Kd.R_drew)); exact Kd.R_mono HO231.out (fun _ hk => trivial)⟩, ⟨by (with_reducible repeat (first | apply Kd.R_alloc | apply Kd.R_drewN | apply Kd.R_drew)); exact Kd.R_mono HO_17.out (fun _ hk => hk.1)⟩, ⟨by (with_reducible repeat (first | apply Kd.R_alloc | apply Kd.R_drewN | apply Kd.R_drew)); exact Kd.R_mono HO_24.out (fun _ hk => hk.1)⟩, ⟨by repeat (first | (with_reducible first | exact HB.out | apply below_alloc | apply pw_below_drewN | apply below_drew1 | refine below_set ?_ GE219.out) | exact HB.out)⟩⟩
                                                · rw [if_neg c38] at H
                                                  exact absurd H (by simp)
                                              · replace c37 := Bool.eq_false_iff.mpr c37
                                                subst c37
                                                have H1 : (some (([] : List (List (S38))), false)) = some (r1, r2) := by rw [if_neg (show ¬ (false = true) by decide)] at H; exact H
                                                clear H
                                                have H := H1
                                                clear H1
                                                simp only [Option.some.injEq, Prod.mk.injEq] at H
                                                obtain ⟨rfl, rfl⟩ := H
                                                have p223 : 0 ≤ (x35_3 : Int) := of_decide_eq_true (by first | (with_reducible assumption) | assumption)
                                                have q223 : x35_3 < (y220.length : Int) := of_decide_eq_true (by first | (with_reducible assumption) | assumption)
                                                obtain ⟨ad223, e223, hx223_0⟩ := Kd.at_string (Kd.R_reads' HO_33.out).2.2 x35_3 p223 q223
                                                cases e223
                                                replace p223 := eq_true p223
                                                replace q223 := eq_true q223
                                                go_wp2_with (first | ((with_reducible refine gate_callee (f := 21) rfl ?_); refine goesL_ (some 41) rfl rfl Tryd.func21 (by kernel_rfl) rfl #[.string (rdOf ByteArray.empty t208 x26_2), .string (rdOf ByteArray.empty y220 x35_3)] rfl (by (try simp only [List.map_toArray, List.map_cons, List.map_nil]); first | done | rfl | (simp only [List.length_drop, List.length_take]; rfl)) ?_; (with_reducible refine (strings_HasPrefix.calls (rdOf ByteArray.empty t208 x26_2) (rdOf ByteArray.empty y220 x35_3) true _ A24.out).mono ?_); rintro e w' ⟨rfl, ⟨nd, rfl⟩⟩; refine ⟨_, rfl, ?_⟩; (try (rw [drewN_self wr]; generalize hq_ : World.drewN wr _ = wr; have n0_ : Aside0 (Kd.R Kd.string 9 wr w.heap.size (fun k_ => some k_ ≠ (.slice (some ad218) t208.length co11 : Value).ownBlock ∧ some k_ ≠ (.slice (some ad223) y220.length co20 : Value).ownBlock) (.slice (some ad207) t204.length co5) t204) := ⟨by rw [← hq_]; exact (by (with_reducible repeat (first | apply Kd.R_alloc | apply Kd.R_drewN | apply Kd.R_drew)); exact HO_17.out)⟩; have n1_ : Aside0 (Kd.R Kd.string 9 wr w.heap.size (fun k_ => some k_ ≠ (.slice (some ad207) t204.length co5 : Value).ownBlock ∧ some k_ ≠ (.slice (some ad223) y220.length co20 : Value).ownBlock) (.slice (some ad218) t208.length co11) t208) := ⟨by rw [← hq_]; exact (by (with_reducible repeat (first | apply Kd.R_alloc | apply Kd.R_drewN | apply Kd.R_drew)); exact HO_24.out)⟩; have n2_ : Aside0 (Kd.R Kd.string 9 wr w.heap.size (fun k_ => some k_ ≠ (.slice (some ad207) t204.length co5 : Value).ownBlock ∧ some k_ ≠ (.slice (some ad218) t208.length co11 : Value).ownBlock) (.slice (some ad223) y220.length co20) y220) := ⟨by rw [← hq_]; exact (by (with_reducible repeat (first | apply Kd.R_alloc | apply Kd.R_drewN | apply Kd.R_drew)); exact HO_33.out)⟩; have n3_ : Aside0 (Kd.S (Kd.slice 38 k38) 36 wr w.heap.size (fun k_ => some k_ ≠ (u7 : Value).ownBlock ∧ k_ ≠ gb219) u4 x4_1) := ⟨by rw [← hq_]; exact (by (with_reducible repeat (first | apply Kd.S_alloc | apply Kd.S_drewN | apply Kd.S_drew)); exact HO_4.out)⟩; have n4_ : Aside0 (Kd.R k38 38 wr w.heap.size (fun k_ => k_ ≠ gb219) u7 x7_2) := ⟨by rw [← hq_]; exact (by (with_reducible repeat (first | apply Kd.R_alloc | apply Kd.R_drewN | apply Kd.R_drew)); exact HO_7.out)⟩; have n5_ : Aside0 (wr.heap[gb219]? = some (.cells #[.string x220000_3, .string x220001_3] 38 (0, 0))) := ⟨by rw [← hq_]; exact (by (with_reducible repeat (first | refine blk_drewN ?_ _ | refine blk_drew ?_ | refine blk_alloc ?_ _)); exact BK219.out)⟩; have n6_ : Aside0 (Below w.heap.size w wr) := ⟨by rw [← hq_]; exact (by repeat (first | (with_reducible first | exact HB.out | apply below_alloc | apply pw_below_drewN | apply below_drew1 | refine below_set ?_ GE219.out) | exact HB.out))⟩; clear HO_17 HO_24 HO_33 HO_4 HO_7 BK219 HB hq_; have HO_17 := n0_; have HO_24 := n1_; have HO_33 := n2_; have HO_4 := n3_; have HO_7 := n4_; have BK219 := n5_; have HB := n6_; clear n0_ n1_ n2_ n3_ n4_ n5_ n6_)); have hcz43_0 : wr.cell? ⟨gb219, 0, none⟩ = some (.string x220000_3) := (blk_cell BK219.out 0).trans rfl; have hcz43_1 : wr.cell? ⟨gb219, 1, none⟩ = some (.string x220001_3) := (blk_cell BK219.out 1).trans rfl; have hfz43_0 := blk_frozen BK219.out 0; have hfz43_1 := blk_frozen BK219.out 1) | (go_at_call 22; (with_reducible refine (impl_VersionOk.calls k3 ((rdOf ByteArray.empty t208 x26_2).extract ((rdOf ByteArray.empty y220 x35_3).size) (rdOf ByteArray.empty t208 x26_2).size) false _ A36.out).mono ?_); rintro e w44 ⟨rfl, hb⟩; have n0_ := Aside0.mk (Kd.S_below (by (with_reducible repeat (first | apply Kd.S_alloc | apply Kd.S_drewN | apply Kd.S_drew)); exact (Kd.S_mono (Kd.S_far (p := ⟨gb219, 1, none⟩) (Kd.S_far (p := ⟨gb219, 0, none⟩) (Kd.S_mono HO_4.out (fun k_ hk => (⟨hk, hk.2⟩ : _ ∧ k_ ≠ gb219))) (fun _ hk => hk.2) (.string (rdOf ByteArray.empty y220 x35_3))) (fun _ hk => hk.2) (.string ((rdOf ByteArray.empty t208 x26_2).extract ((rdOf ByteArray.empty y220 x35_3).size) (rdOf ByteArray.empty t208 x26_2).size))) (fun _ h_ => h_.1))) hb); have n1_ := Aside0.mk (Kd.R_below (by (with_reducible repeat (first | apply Kd.R_alloc | apply Kd.R_drewN | apply Kd.R_drew)); exact (Kd.R_mono (Kd.R_far (p := ⟨gb219, 1, none⟩) (Kd.R_far (p := ⟨gb219, 0, none⟩) (Kd.R_mono HO_7.out (fun k_ hk => (⟨hk, hk⟩ : _ ∧ k_ ≠ gb219))) (fun _ hk => hk.2) (.string (rdOf ByteArray.empty y220 x35_3))) (fun _ hk => hk.2) (.string ((rdOf ByteArray.empty t208 x26_2).extract ((rdOf ByteArray.empty y220 x35_3).size) (rdOf ByteArray.empty t208 x26_2).size))) (fun _ h_ => h_.1))) hb); have n2_ := Aside0.mk (Kd.R_below (by (with_reducible repeat (first | apply Kd.R_alloc | apply Kd.R_drewN | apply Kd.R_drew)); exact (Kd.R_mono (Kd.R_far (p := ⟨gb219, 1, none⟩) (Kd.R_far (p := ⟨gb219, 0, none⟩) (Kd.R_types HO_17.out BK219.out (by decide)) (fun _ hk => hk.2) (.string (rdOf ByteArray.empty y220 x35_3))) (fun _ hk => hk.2) (.string ((rdOf ByteArray.empty t208 x26_2).extract ((rdOf ByteArray.empty y220 x35_3).size) (rdOf ByteArray.empty t208 x26_2).size))) (fun _ h_ => h_.1))) hb); have n3_ := Aside0.mk (Kd.R_below (by (with_reducible repeat (first | apply Kd.R_alloc | apply Kd.R_drewN | apply Kd.R_drew)); exact (Kd.R_mono (Kd.R_far (p := ⟨gb219, 1, none⟩) (Kd.R_far (p := ⟨gb219, 0, none⟩) (Kd.R_types HO_24.out BK219.out (by decide)) (fun _ hk => hk.2) (.string (rdOf ByteArray.empty y220 x35_3))) (fun _ hk => hk.2) (.string ((rdOf ByteArray.empty t208 x26_2).extract ((rdOf ByteArray.empty y220 x35_3).size) (rdOf ByteArray.empty t208 x26_2).size))) (fun _ h_ => h_.1))) hb); have n4_ := Aside0.mk (Kd.R_below (by (with_reducible repeat (first | apply Kd.R_alloc | apply Kd.R_drewN | apply Kd.R_drew)); exact (Kd.R_mono (Kd.R_far (p := ⟨gb219, 1, none⟩) (Kd.R_far (p := ⟨gb219, 0, none⟩) (Kd.R_types HO_33.out BK219.out (by decide)) (fun _ hk => hk.2) (.string (rdOf ByteArray.empty y220 x35_3))) (fun _ hk => hk.2) (.string ((rdOf ByteArray.empty t208 x26_2).extract ((rdOf ByteArray.empty y220 x35_3).size) (rdOf ByteArray.empty t208 x26_2).size))) (fun _ h_ => h_.1))) hb); have n5_ := Aside0.mk (blk_below (g := gb219) (o := .cells #[.string (rdOf ByteArray.empty y220 x35_3), .string ((rdOf ByteArray.empty t208 x26_2).extract ((rdOf ByteArray.empty y220 x35_3).size) (rdOf ByteArray.empty t208 x26_2).size)] 38 (0, 0)) (by (with_reducible repeat (first | refine blk_drewN ?_ _ | refine blk_drew ?_ | refine blk_alloc ?_ _)); refine blk_put (cs := #[.string (rdOf ByteArray.empty y220 x35_3), .string x220001_3]) ?_ 1 _ rfl; (with_reducible repeat (first | refine blk_drewN ?_ _ | refine blk_drew ?_ | refine blk_alloc ?_ _)); refine blk_put (cs := #[.string x220000_3, .string x220001_3]) ?_ 0 _ rfl; (with_reducible repeat (first | refine blk_drewN ?_ _ | refine blk_drew ?_ | refine blk_alloc ?_ _)); exact BK219.out) hb); have n6_ := Aside0.mk (below_step (by repeat (first | (with_reducible first | exact HB.out | apply below_alloc | apply pw_below_drewN | apply below_drew1 | refine below_set ?_ GE219.out) | exact HB.out)) hb); clear HO_4; clear HO_7; clear HO_17; clear HO_24; clear HO_33; clear BK219; clear HB; have HO_4 := n0_; have HO_7 := n1_; have HO_17 := n2_; have HO_24 := n3_; have HO_33 := n4_; have BK219 := n5_; have HB := n6_; clear n0_ n1_ n2_ n3_ n4_ n5_ n6_; (try clear hb); (try clear hb2); (try clear hk); (try clear hi)))
                                                go_ret2
                                                exact ⟨_, by first | rfl | (simp [errW_none, errW_some] <;> rfl) | (simp [*, errW_none, errW_some] <;> rfl), by first | exact Kd.S_nil _ _ _ _ _ | exact Kd.N_nil _ _ _ _ _ | exact Kd.V_nil _ _ _ _ _ | exact Kd.Q_nil _ _ _ _ _ | exact Kd.R_nil _ _ _ _ _, by repeat (first | (with_reducible first | exact HB.out | apply below_alloc | apply pw_below_drewN | apply below_drew1 | refine below_set ?_ GE219.out) | exact HB.out)⟩
                                        · rw [if_neg c27] at H
                                          exact absurd H (by simp)
                                      · rw [if_neg c26] at H
                                        exact absurd H (by simp)
                                    · replace c25 := Bool.eq_false_iff.mpr c25
                                      subst c25
                                      have H1 : (impl_ReadConstraint.l2 k3 x4_1 x7_2 (rdOf ByteArray.empty t208 x26_2) t204 (t204.length : Int) x19_1 t208 (t208.length : Int) x26_2 y220 (y220.length : Int) (wrap64 (x35_3 + 1)) x220000_3 x220001_3) = some (r1, r2) := by rw [if_neg (show ¬ (false = true) by decide)] at H; exact H
                                      clear H
                                      have H := H1
                                      clear H1
                                      have H' := Aside0.mk H
                                      clear H
                                      have p223 : 0 ≤ (x35_3 : Int) := of_decide_eq_true (by first | (with_reducible assumption) | assumption)
                                      have q223 : x35_3 < (y220.length : Int) := of_decide_eq_true (by first | (with_reducible assumption) | assumption)
                                      obtain ⟨ad223, e223, hx223_0⟩ := Kd.at_string (Kd.R_reads' HO_33.out).2.2 x35_3 p223 q223
                                      cases e223
                                      replace p223 := eq_true p223
                                      replace q223 := eq_true q223
                                      go_wp2_with (first | ((with_reducible refine gate_callee (f := 21) rfl ?_); refine goesL_ (some 41) rfl rfl Tryd.func21 (by kernel_rfl) rfl #[.string (rdOf ByteArray.empty t208 x26_2), .string (rdOf ByteArray.empty y220 x35_3)] rfl (by (try simp only [List.map_toArray, List.map_cons, List.map_nil]); first | done | rfl | (simp only [List.length_drop, List.length_take]; rfl)) ?_; (with_reducible refine (strings_HasPrefix.calls (rdOf ByteArray.empty t208 x26_2) (rdOf ByteArray.empty y220 x35_3) false _ A24.out).mono ?_); rintro e w' ⟨rfl, ⟨nd, rfl⟩⟩; refine ⟨_, rfl, ?_⟩))
                                      go_roundg k3
                                      case measure => have := HK1.out; have := HK2.out; have := HK3.out; omega
                                      case rel => exact ⟨(wrap64 (x35_3 + 1)), (x220000_3), (x220001_3), (by first | rfl | (simp; done) | (simp [*]; done)), H', ⟨by have := HK1.out; have := HK2.out; have := HK3.out; omega⟩, ⟨by (with_reducible repeat (first | apply Kd.S_alloc | apply Kd.S_drewN | apply Kd.S_drew)); exact HO_4.out⟩, ⟨by (with_reducible repeat (first | apply Kd.R_alloc | apply Kd.R_drewN | apply Kd.R_drew)); exact HO_7.out⟩, ⟨by (with_reducible repeat (first | apply Kd.R_alloc | apply Kd.R_drewN | apply Kd.R_drew)); exact HO_17.out⟩, ⟨by (with_reducible repeat (first | apply Kd.R_alloc | apply Kd.R_drewN | apply Kd.R_drew)); exact HO_24.out⟩, ⟨by (with_reducible repeat (first | apply Kd.R_alloc | apply Kd.R_drewN | apply Kd.R_drew)); exact HO_33.out⟩, ⟨by (with_reducible repeat (first | refine blk_drewN ?_ _ | refine blk_drew ?_ | refine blk_alloc ?_ _)); exact BK219.out⟩, ⟨by repeat (first | (with_reducible first | exact HB.out | apply below_alloc | apply pw_below_drewN | apply below_drew1 | refine below_set ?_ GE219.out) | exact HB.out)⟩⟩
                                  · rw [if_neg c23] at H
                                    exact absurd H (by simp)
                                · rw [if_neg c22] at H
                                  exact absurd H (by simp)
                              · rw [if_neg c21] at H
                                have c21b0 : decide (x35_3 < (y220.length : Int)) = false := decide_eq_false c21
                                clear c21
                                by_cases c45 : x220000_3.toList = ([] : List UInt8)
                                · rw [if_pos c45] at H
                                  have c45b0 : (x220000_3.toList == ([] : List UInt8)) = true := beq_iff_eq.mpr c45
                                  have c45b1 : (x220000_3.toList != ([] : List UInt8)) = false := bne_eq_false_iff_eq.mpr c45
                                  clear c45
                                  simp only [Option.some.injEq, Prod.mk.injEq] at H
                                  obtain ⟨rfl, rfl⟩ := H
                                  have hcz46_0 : wr.cell? ⟨gb219, 0, none⟩ = some (.string x220000_3) := (blk_cell BK219.out 0).trans rfl
                                  have hcz46_1 : wr.cell? ⟨gb219, 1, none⟩ = some (.string x220001_3) := (blk_cell BK219.out 1).trans rfl
                                  have hfz46_0 := blk_frozen BK219.out 0
                                  have hfz46_1 := blk_frozen BK219.out 1
                                  go_wp2
                                  go_ret2
                                  exact ⟨_, by first | rfl | (simp [errW_none, errW_some] <;> rfl) | (simp [*, errW_none, errW_some] <;> rfl), by first | exact Kd.S_nil _ _ _ _ _ | exact Kd.N_nil _ _ _ _ _ | exact Kd.V_nil _ _ _ _ _ | exact Kd.Q_nil _ _ _ _ _ | exact Kd.R_nil _ _ _ _ _, by repeat (first | (with_reducible first | exact HB.out | apply below_alloc | apply pw_below_drewN | apply below_drew1 | refine below_set ?_ GE219.out) | exact HB.out)⟩
                                · rw [if_neg c45] at H
                                  have c45b0 : (x220000_3.toList == ([] : List UInt8)) = false := beq_eq_false_iff_ne.mpr c45
                                  have c45b1 : (x220000_3.toList != ([] : List UInt8)) = true := bne_iff_ne.mpr c45
                                  by_cases c47 : x220000_3.toList = ([42] : List UInt8)
                                  · rw [if_pos c47] at H
                                    have c47b0 : (x220000_3.toList == ([42] : List UInt8)) = true := beq_iff_eq.mpr c47
                                    have c47b1 : (x220000_3.toList != ([42] : List UInt8)) = false := bne_eq_false_iff_eq.mpr c47
                                    clear c47
                                    by_cases c48 : x220001_3.toList = ([] : List UInt8)
                                    · rw [if_pos c48] at H
                                      have c48b0 : (x220001_3.toList == ([] : List UInt8)) = true := beq_iff_eq.mpr c48
                                      have c48b1 : (x220001_3.toList != ([] : List UInt8)) = false := bne_eq_false_iff_eq.mpr c48
                                      clear c48
                                      by_cases c49 : x7_2.length < 4398046511104
                                      · rw [if_pos c49] at H
                                        have LMc49 := Aside0.mk c49
                                        clear c49
                                        obtain ⟨y232, hy232⟩ : ∃ y_ : List (S38), y_ = (x7_2 ++ [(⟨x220000_3, x220001_3⟩ : S38)]) := ⟨_, rfl⟩
                                        replace H : (impl_ReadConstraint.l1 k3 x4_1 y232 t204 (t204.length : Int) x19_1 t208 (t208.length : Int) (wrap64 (x26_2 + 1))) = some (r1, r2) := by first | (rw [hy232]; with_reducible exact H) | (have H2_ := (Option.bind_some _ _).symm.trans H; rw [hy232]; with_reducible exact H2_) | (have H2_ := (Option.bind_some _ _).symm.trans H; with_reducible exact H2_) | with_reducible exact H | (rw [hy232]; exact H) | exact H
                                        have Ny232 := Aside0.mk hy232
                                        clear hy232
                                        have H' := Aside0.mk H
                                        clear H
                                        have hcz50_0 : wr.cell? ⟨gb219, 0, none⟩ = some (.string x220000_3) := (blk_cell BK219.out 0).trans rfl
                                        have hcz50_1 : wr.cell? ⟨gb219, 1, none⟩ = some (.string x220001_3) := (blk_cell BK219.out 1).trans rfl
                                        have hfz50_0 := blk_frozen BK219.out 0
                                        have hfz50_1 := blk_frozen BK219.out 1
                                        go_wp2_with (first | ((with_reducible refine gate_builtin (b := .append) (xs := #[.tmp 73, .tmp 75]) rfl ?_); (try (refine gate_guard (by rfl) ?_; dsimp only)); at_builtin; refine Kd.R_append k38 (w0 := w) w.heap.size rfl (.tmp 73) (.tmp 75) 36 38 (.agg #[(.string ⟨#[]⟩), (.string ⟨#[]⟩)]) 32 rfl Tryd.underlying36 info38 rfl (by decide) (by omega) u7 x7_2 (⟨x220000_3, x220001_3⟩ : S38) [.string x220000_3, .string x220001_3] (fun k_ => k_ ≠ gb219) (fun _ => False) rfl rfl ?aP (fun _ hk => hk.elim) ?aF ?aO ?aB ?aS ?aL ?_; (case aP => exact k38_mkM _ _ _ (⟨x220000_3, x220001_3⟩ : S38)); (case aB => exact (by repeat (first | (with_reducible first | exact HB.out | apply below_alloc | apply pw_below_drewN | apply below_drew1 | refine below_set ?_ GE219.out) | exact HB.out))); (case aF => exact (fun k_ hk => Kd.freshB (g := gb219) (o := .cells #[.string x220000_3, .string x220001_3] 38 (0, 0)) (by (with_reducible repeat (first | refine blk_drewN ?_ _ | refine blk_drew ?_ | refine blk_alloc ?_ _)); exact BK219.out) k_ hk)); (case aO => exact (by (with_reducible repeat (first | apply Kd.R_alloc | apply Kd.R_drewN | apply Kd.R_drew)); exact HO_7.out)); (case aS => exact (below_size (by repeat (first | (with_reducible first | exact HB.out | apply below_alloc | apply pw_below_drewN | apply below_drew1 | refine below_set ?_ GE219.out) | exact HB.out)))); (case aL => have := LMc49.out; omega); intro v233 w51 ho hb hg hat; rw [← Ny232.out] at ho; have n0_ := Aside0.mk (Kd.S_after (ok := (fun k_ => k_ ≠ gb219)) (by (with_reducible repeat (first | apply Kd.S_alloc | apply Kd.S_drewN | apply Kd.S_drew)); exact Kd.S_mono HO_4.out (fun _ hk => ⟨hk.2, hk.1⟩)) hg hat); have n1_ := Aside0.mk (Kd.R_over' (by (with_reducible repeat (first | apply Kd.R_alloc | apply Kd.R_drewN | apply Kd.R_drew)); exact HO_17.out) (Kd.R_typed (by (with_reducible repeat (first | apply Kd.R_alloc | apply Kd.R_drewN | apply Kd.R_drew)); exact HO_7.out)) (by decide) hg); have n2_ := Aside0.mk (Kd.R_over' (by (with_reducible repeat (first | apply Kd.R_alloc | apply Kd.R_drewN | apply Kd.R_drew)); exact HO_24.out) (Kd.R_typed (by (with_reducible repeat (first | apply Kd.R_alloc | apply Kd.R_drewN | apply Kd.R_drew)); exact HO_7.out)) (by decide) hg); have n3_ := Aside0.mk (Kd.R_over' (by (with_reducible repeat (first | apply Kd.R_alloc | apply Kd.R_drewN | apply Kd.R_drew)); exact HO_33.out) (Kd.R_typed (by (with_reducible repeat (first | apply Kd.R_alloc | apply Kd.R_drewN | apply Kd.R_drew)); exact HO_7.out)) (by decide) hg); have n4_ := Aside0.mk (blk_grown (g := gb219) (o := .cells #[.string x220000_3, .string x220001_3] 38 (0, 0)) (by (with_reducible repeat (first | refine blk_drewN ?_ _ | refine blk_drew ?_ | refine blk_alloc ?_ _)); exact BK219.out) hg (Kd.R_away HO_7.out (fun _ hk => hk))); have n5_ := Aside0.mk (hb); have n6_ := Aside0.mk (ho); clear HO_4; clear HO_17; clear HO_24; clear HO_33; clear BK219; clear HB; clear HO_7; have HO_4 := n0_; have HO_17 := n1_; have HO_24 := n2_; have HO_33 := n3_; have BK219 := n4_; have HB := n5_; have HO234 := n6_; clear n0_ n1_ n2_ n3_ n4_ n5_ n6_; clear ho hb hg hat))
                                        go_roundg k3
                                        case measure => have := HK1.out; have := HK2.out; have := HK3.out; omega
                                        case rel => exact ⟨(y232), (wrap64 (x26_2 + 1)), (by first | rfl | (simp; done) | (simp [*]; done)), H', ⟨by have := HK1.out; have := HK2.out; have := HK3.out; omega⟩, ⟨by (with_reducible repeat (first | apply Kd.S_alloc | apply Kd.S_drewN | apply Kd.S_drew)); exact Kd.S_mono HO_4.out (fun _ hk => hk.2)⟩, ⟨by (with_reducible repeat (first | apply Kd.R_alloc | apply Kd.R_drewN | apply Kd.R_drew)); exact Kd.R_mono HO234.out (fun _ hk => trivial)⟩, ⟨by (with_reducible repeat (first | apply Kd.R_alloc | apply Kd.R_drewN | apply Kd.R_drew)); exact Kd.R_mono HO_17.out (fun _ hk => hk.1)⟩, ⟨by (with_reducible repeat (first | apply Kd.R_alloc | apply Kd.R_drewN | apply Kd.R_drew)); exact Kd.R_mono HO_24.out (fun _ hk => hk.1)⟩, ⟨by repeat (first | (with_reducible first | exact HB.out | apply below_alloc | apply pw_below_drewN | apply below_drew1 | refine below_set ?_ GE219.out) | exact HB.out)⟩⟩
                                      · rw [if_neg c49] at H
                                        exact absurd H (by simp)
                                    · rw [if_neg c48] at H
                                      have c48b0 : (x220001_3.toList == ([] : List UInt8)) = false := beq_eq_false_iff_ne.mpr c48
                                      have c48b1 : (x220001_3.toList != ([] : List UInt8)) = true := bne_iff_ne.mpr c48
                                      simp only [Option.some.injEq, Prod.mk.injEq] at H
                                      obtain ⟨rfl, rfl⟩ := H
                                      have hcz52_0 : wr.cell? ⟨gb219, 0, none⟩ = some (.string x220000_3) := (blk_cell BK219.out 0).trans rfl
                                      have hcz52_1 : wr.cell? ⟨gb219, 1, none⟩ = some (.string x220001_3) := (blk_cell BK219.out 1).trans rfl
                                      have hfz52_0 := blk_frozen BK219.out 0
                                      have hfz52_1 := blk_frozen BK219.out 1
                                      go_wp2
                                      go_ret2
                                      exact ⟨_, by first | rfl | (simp [errW_none, errW_some] <;> rfl) | (simp [*, errW_none, errW_some] <;> rfl), by first | exact Kd.S_nil _ _ _ _ _ | exact Kd.N_nil _ _ _ _ _ | exact Kd.V_nil _ _ _ _ _ | exact Kd.Q_nil _ _ _ _ _ | exact Kd.R_nil _ _ _ _ _, by repeat (first | (with_reducible first | exact HB.out | apply below_alloc | apply pw_below_drewN | apply below_drew1 | refine below_set ?_ GE219.out) | exact HB.out)⟩
                                  · rw [if_neg c47] at H
                                    have c47b0 : (x220000_3.toList == ([42] : List UInt8)) = false := beq_eq_false_iff_ne.mpr c47
                                    have c47b1 : (x220000_3.toList != ([42] : List UInt8)) = true := bne_iff_ne.mpr c47
                                    replace H := Option.bind_eq_some_iff.mp H
                                    obtain ⟨t235, A530, H⟩ := H
                                    replace H : (if t235 = true then (if x7_2.length < 4398046511104 then (impl_ReadConstraint.l1 k3 x4_1 (x7_2 ++ [(⟨x220000_3, x220001_3⟩ : S38)]) t204 (t204.length : Int) x19_1 t208 (t208.length : Int) (wrap64 (x26_2 + 1))) else (none)) else (some (([] : List (List (S38))), false))) = some (r1, r2) := H
                                    have A53 := Aside0.mk A530
                                    clear A530
                                    by_cases c54 : t235 = true
                                    · subst c54
                                      have H1 : (if x7_2.length < 4398046511104 then (impl_ReadConstraint.l1 k3 x4_1 (x7_2 ++ [(⟨x220000_3, x220001_3⟩ : S38)]) t204 (t204.length : Int) x19_1 t208 (t208.length : Int) (wrap64 (x26_2 + 1))) else (none)) = some (r1, r2) := by rw [if_pos rfl] at H; exact H
                                      clear H
                                      have H := H1
                                      clear H1
                                      by_cases c55 : x7_2.length < 4398046511104
                                      · rw [if_pos c55] at H
                                        have LMc55 := Aside0.mk c55
                                        clear c55
                                        obtain ⟨y236, hy236⟩ : ∃ y_ : List (S38), y_ = (x7_2 ++ [(⟨x220000_3, x220001_3⟩ : S38)]) := ⟨_, rfl⟩
                                        replace H : (impl_ReadConstraint.l1 k3 x4_1 y236 t204 (t204.length : Int) x19_1 t208 (t208.length : Int) (wrap64 (x26_2 + 1))) = some (r1, r2) := by first | (rw [hy236]; with_reducible exact H) | (have H2_ := (Option.bind_some _ _).symm.trans H; rw [hy236]; with_reducible exact H2_) | (have H2_ := (Option.bind_some _ _).symm.trans H; with_reducible exact H2_) | with_reducible exact H | (rw [hy236]; exact H) | exact H
                                        have Ny236 := Aside0.mk hy236
                                        clear hy236
                                        have H' := Aside0.mk H
                                        clear H
                                        have hcz56_0 : wr.cell? ⟨gb219, 0, none⟩ = some (.string x220000_3) := (blk_cell BK219.out 0).trans rfl
                                        have hcz56_1 : wr.cell? ⟨gb219, 1, none⟩ = some (.string x220001_3) := (blk_cell BK219.out 1).trans rfl
                                        have hfz56_0 := blk_frozen BK219.out 0
                                        have hfz56_1 := blk_frozen BK219.out 1
                                        go_wp2_with (first | (go_at_call 22; (with_reducible refine (impl_VersionOk.calls k3 x220001_3 true _ A53.out).mono ?_); rintro e w57 ⟨rfl, hb⟩; have n0_ := Aside0.mk (Kd.S_below (by (with_reducible repeat (first | apply Kd.S_alloc | apply Kd.S_drewN | apply Kd.S_drew)); exact HO_4.out) hb); have n1_ := Aside0.mk (Kd.R_below (by (with_reducible repeat (first | apply Kd.R_alloc | apply Kd.R_drewN | apply Kd.R_drew)); exact HO_7.out) hb); have n2_ := Aside0.mk (Kd.R_below (by (with_reducible repeat (first | apply Kd.R_alloc | apply Kd.R_drewN | apply Kd.R_drew)); exact HO_17.out) hb); have n3_ := Aside0.mk (Kd.R_below (by (with_reducible repeat (first | apply Kd.R_alloc | apply Kd.R_drewN | apply Kd.R_drew)); exact HO_24.out) hb); have n4_ := Aside0.mk (Kd.R_below (by (with_reducible repeat (first | apply Kd.R_alloc | apply Kd.R_drewN | apply Kd.R_drew)); exact HO_33.out) hb); have n5_ := Aside0.mk (blk_below (g := gb219) (o := .cells #[.string x220000_3, .string x220001_3] 38 (0, 0)) (by (with_reducible repeat (first | refine blk_drewN ?_ _ | refine blk_drew ?_ | refine blk_alloc ?_ _)); exact BK219.out) hb); have n6_ := Aside0.mk (below_step (by repeat (first | (with_reducible first | exact HB.out | apply below_alloc | apply pw_below_drewN | apply below_drew1 | refine below_set ?_ GE219.out) | exact HB.out)) hb); clear HO_4; clear HO_7; clear HO_17; clear HO_24; clear HO_33; clear BK219; clear HB; have HO_4 := n0_; have HO_7 := n1_; have HO_17 := n2_; have HO_24 := n3_; have HO_33 := n4_; have BK219 := n5_; have HB := n6_; clear n0_ n1_ n2_ n3_ n4_ n5_ n6_; (try clear hb); (try clear hb2); (try clear hk); (try clear hi); have hcz58_0 : w57.cell? ⟨gb219, 0, none⟩ = some (.string x220000_3) := (blk_cell BK219.out 0).trans rfl; have hcz58_1 : w57.cell? ⟨gb219, 1, none⟩ = some (.string x220001_3) := (blk_cell BK219.out 1).trans rfl; have hfz58_0 := blk_frozen BK219.out 0; have hfz58_1 := blk_frozen BK219.out 1) | ((with_reducible refine gate_builtin (b := .append) (xs := #[.tmp 73, .tmp 75]) rfl ?_); (try (refine gate_guard (by rfl) ?_; dsimp only)); at_builtin; refine Kd.R_append k38 (w0 := w) w.heap.size rfl (.tmp 73) (.tmp 75) 36 38 (.agg #[(.string ⟨#[]⟩), (.string ⟨#[]⟩)]) 32 rfl Tryd.underlying36 info38 rfl (by decide) (by omega) u7 x7_2 (⟨x220000_3, x220001_3⟩ : S38) [.string x220000_3, .string x220001_3] (fun k_ => k_ ≠ gb219) (fun _ => False) rfl rfl ?aP (fun _ hk => hk.elim) ?aF ?aO ?aB ?aS ?aL ?_; (case aP => exact k38_mkM _ _ _ (⟨x220000_3, x220001_3⟩ : S38)); (case aB => exact (by repeat (first | (with_reducible first | exact HB.out | apply below_alloc | apply pw_below_drewN | apply below_drew1 | refine below_set ?_ GE219.out) | exact HB.out))); (case aF => exact (fun k_ hk => Kd.freshB (g := gb219) (o := .cells #[.string x220000_3, .string x220001_3] 38 (0, 0)) (by (with_reducible repeat (first | refine blk_drewN ?_ _ | refine blk_drew ?_ | refine blk_alloc ?_ _)); exact BK219.out) k_ hk)); (case aO => exact (by (with_reducible repeat (first | apply Kd.R_alloc | apply Kd.R_drewN | apply Kd.R_drew)); exact HO_7.out)); (case aS => exact (below_size (by repeat (first | (with_reducible first | exact HB.out | apply below_alloc | apply pw_below_drewN | apply below_drew1 | refine below_set ?_ GE219.out) | exact HB.out)))); (case aL => have := LMc55.out; omega); intro v237 w59 ho hb hg hat; rw [← Ny236.out] at ho; have n0_ := Aside0.mk (Kd.S_after (ok := (fun k_ => k_ ≠ gb219)) (by (with_reducible repeat (first | apply Kd.S_alloc | apply Kd.S_drewN | apply Kd.S_drew)); exact Kd.S_mono HO_4.out (fun _ hk => ⟨hk.2, hk.1⟩)) hg hat); have n1_ := Aside0.mk (Kd.R_over' (by (with_reducible repeat (first | apply Kd.R_alloc | apply Kd.R_drewN | apply Kd.R_drew)); exact HO_17.out) (Kd.R_typed (by (with_reducible repeat (first | apply Kd.R_alloc | apply Kd.R_drewN | apply Kd.R_drew)); exact HO_7.out)) (by decide) hg); have n2_ := Aside0.mk (Kd.R_over' (by (with_reducible repeat (first | apply Kd.R_alloc | apply Kd.R_drewN | apply Kd.R_drew)); exact HO_24.out) (Kd.R_typed (by (with_reducible repeat (first | apply Kd.R_alloc | apply Kd.R_drewN | apply Kd.R_drew)); exact HO_7.out)) (by decide) hg); have n3_ := Aside0.mk (Kd.R_over' (by (with_reducible repeat (first | apply Kd.R_alloc | apply Kd.R_drewN | apply Kd.R_drew)); exact HO_33.out) (Kd.R_typed (by (with_reducible repeat (first | apply Kd.R_alloc | apply Kd.R_drewN | apply Kd.R_drew)); exact HO_7.out)) (by decide) hg); have n4_ := Aside0.mk (blk_grown (g := gb219) (o := .cells #[.string x220000_3, .string x220001_3] 38 (0, 0)) (by (with_reducible repeat (first | refine blk_drewN ?_ _ | refine blk_drew ?_ | refine blk_alloc ?_ _)); exact BK219.out) hg (Kd.R_away HO_7.out (fun _ hk => hk))); have n5_ := Aside0.mk (hb); have n6_ := Aside0.mk (ho); clear HO_4; clear HO_17; clear HO_24; clear HO_33; clear BK219; clear HB; clear HO_7; have HO_4 := n0_; have HO_17 := n1_; have HO_24 := n2_; have HO_33 := n3_; have BK219 := n4_; have HB := n5_; have HO238 := n6_; clear n0_ n1_ n2_ n3_ n4_ n5_ n6_; clear ho hb hg hat))
                                        go_roundg k3
                                        case measure => have := HK1.out; have := HK2.out; have := HK3.out; omega
                                        case rel => exact ⟨(y236), (wrap64 (x26_2 + 1)), (by first | rfl | (simp; done) | (simp [*]; done)), H', ⟨by have := HK1.out; have := HK2.out; have := HK3.out; omega⟩, ⟨by (with_reducible repeat (first | apply Kd.S_alloc | apply Kd.S_drewN | apply Kd.S_drew)); exact Kd.S_mono HO_4.out (fun _ hk => hk.2)⟩, ⟨by (with_reducible repeat (first | apply Kd.R_alloc | apply Kd.R_drewN | apply Kd.R_drew)); exact Kd.R_mono HO238.out (fun _ hk => trivial)⟩, ⟨by (with_reducible repeat (first | apply Kd.R_alloc | apply Kd.R_drewN | apply Kd.R_drew)); exact Kd.R_mono HO_17.out (fun _ hk => hk.1)⟩, ⟨by (with_reducible repeat (first | apply Kd.R_alloc | apply Kd.R_drewN | apply Kd.R_drew)); exact Kd.R_mono HO_24.out (fun _ hk => hk.1)⟩, ⟨by repeat (first | (with_reducible first | exact HB.out | apply below_alloc | apply pw_below_drewN | apply below_drew1 | refine below_set ?_ GE219.out) | exact HB.out)⟩⟩
                                      · rw [if_neg c55] at H
                                        exact absurd H (by simp)
                                    · replace c54 := Bool.eq_false_iff.mpr c54
                                      subst c54
                                      have H1 : (some (([] : List (List (S38))), false)) = some (r1, r2) := by rw [if_neg (show ¬ (false = true) by decide)] at H; exact H
                                      clear H
                                      have H := H1
                                      clear H1
                                      simp only [Option.some.injEq, Prod.mk.injEq] at H
                                      obtain ⟨rfl, rfl⟩ := H
                                      have hcz60_0 : wr.cell? ⟨gb219, 0, none⟩ = some (.string x220000_3) := (blk_cell BK219.out 0).trans rfl
                                      have hcz60_1 : wr.cell? ⟨gb219, 1, none⟩ = some (.string x220001_3) := (blk_cell BK219.out 1).trans rfl
                                      have hfz60_0 := blk_frozen BK219.out 0
                                      have hfz60_1 := blk_frozen BK219.out 1
                                      go_wp2_with (first | (go_at_call 22; (with_reducible refine (impl_VersionOk.calls k3 x220001_3 false _ A53.out).mono ?_); rintro e w61 ⟨rfl, hb⟩; have n0_ := Aside0.mk (Kd.S_below (by (with_reducible repeat (first | apply Kd.S_alloc | apply Kd.S_drewN | apply Kd.S_drew)); exact HO_4.out) hb); have n1_ := Aside0.mk (Kd.R_below (by (with_reducible repeat (first | apply Kd.R_alloc | apply Kd.R_drewN | apply Kd.R_drew)); exact HO_7.out) hb); have n2_ := Aside0.mk (Kd.R_below (by (with_reducible repeat (first | apply Kd.R_alloc | apply Kd.R_drewN | apply Kd.R_drew)); exact HO_17.out) hb); have n3_ := Aside0.mk (Kd.R_below (by (with_reducible repeat (first | apply Kd.R_alloc | apply Kd.R_drewN | apply Kd.R_drew)); exact HO_24.out) hb); have n4_ := Aside0.mk (Kd.R_below (by (with_reducible repeat (first | apply Kd.R_alloc | apply Kd.R_drewN | apply Kd.R_drew)); exact HO_33.out) hb); have n5_ := Aside0.mk (blk_below (g := gb219) (o := .cells #[.string x220000_3, .string x220001_3] 38 (0, 0)) (by (with_reducible repeat (first | refine blk_drewN ?_ _ | refine blk_drew ?_ | refine blk_alloc ?_ _)); exact BK219.out) hb); have n6_ := Aside0.mk (below_step (by repeat (first | (with_reducible first | exact HB.out | apply below_alloc | apply pw_below_drewN | apply below_drew1 | refine below_set ?_ GE219.out) | exact HB.out)) hb); clear HO_4; clear HO_7; clear HO_17; clear HO_24; clear HO_33; clear BK219; clear HB; have HO_4 := n0_; have HO_7 := n1_; have HO_17 := n2_; have HO_24 := n3_; have HO_33 := n4_; have BK219 := n5_; have HB := n6_; clear n0_ n1_ n2_ n3_ n4_ n5_ n6_; (try clear hb); (try clear hb2); (try clear hk); (try clear hi)))
                                      go_ret2
                                      exact ⟨_, by first | rfl | (simp [errW_none, errW_some] <;> rfl) | (simp [*, errW_none, errW_some] <;> rfl), by first | exact Kd.S_nil _ _ _ _ _ | exact Kd.N_nil _ _ _ _ _ | exact Kd.V_nil _ _ _ _ _ | exact Kd.Q_nil _ _ _ _ _ | exact Kd.R_nil _ _ _ _ _, by repeat (first | (with_reducible first | exact HB.out | apply below_alloc | apply pw_below_drewN | apply below_drew1 | refine below_set ?_ GE219.out) | exact HB.out)⟩
                      · rw [if_neg c14] at H
                        exact absurd H (by simp)
                    · rw [if_neg c13] at H
                      exact absurd H (by simp)
                  · rw [if_neg c12] at H
                    have c12b0 : decide (x26_2 < (t208.length : Int)) = false := decide_eq_false c12
                    clear c12
                    by_cases c62 : (x7_2.length : Int) = 0
                    · rw [if_pos c62] at H
                      have c62b0 : ((x7_2.length : Int) == 0) = true := beq_iff_eq.mpr c62
                      have c62b1 : ((x7_2.length : Int) != 0) = false := bne_eq_false_iff_eq.mpr c62
                      clear c62
                      simp only [Option.some.injEq, Prod.mk.injEq] at H
                      obtain ⟨rfl, rfl⟩ := H
                      obtain ⟨Ao63, co63, eo63⟩ := Kd.R_slice HO_7.out
                      subst eo63
                      go_wp2
                      go_ret2
                      exact ⟨_, by first | rfl | (simp [errW_none, errW_some] <;> rfl) | (simp [*, errW_none, errW_some] <;> rfl), by first | exact Kd.S_nil _ _ _ _ _ | exact Kd.N_nil _ _ _ _ _ | exact Kd.V_nil _ _ _ _ _ | exact Kd.Q_nil _ _ _ _ _ | exact Kd.R_nil _ _ _ _ _, by repeat (first | (with_reducible first | exact HB.out | apply below_alloc | apply pw_below_drewN | apply below_drew1) | exact HB.out)⟩
                    · rw [if_neg c62] at H
                      have c62b0 : ((x7_2.length : Int) == 0) = false := beq_eq_false_iff_ne.mpr c62
                      have c62b1 : ((x7_2.length : Int) != 0) = true := bne_iff_ne.mpr c62
                      have c62b2 : ¬ (x7_2 = []) := fun h_ => c62 (by rw [h_]; rfl)
                      by_cases c64 : (x7_2.length : Int) > 1
                      · rw [if_pos c64] at H
                        have c64b0 : decide (1 < (x7_2.length : Int)) = true := decide_eq_true c64
                        have c64b1 : decide (1 < x7_2.length) = true := decide_eq_true (by omega)
                        clear c64
                        replace H := Option.bind_eq_some_iff.mp H
                        obtain ⟨t211, A650, H⟩ := H
                        replace H : (if t211 = true then (some (([] : List (List (S38))), false)) else (if x4_1.length < 5864062014805 then (impl_ReadConstraint.l0 k2 (x4_1 ++ [x7_2]) t204 (t204.length : Int) (wrap64 (x19_1 + 1))) else (none))) = some (r1, r2) := H
                        have A65 := Aside0.mk A650
                        clear A650
                        by_cases c66 : t211 = true
                        · subst c66
                          have H1 : (some (([] : List (List (S38))), false)) = some (r1, r2) := by rw [if_pos rfl] at H; exact H
                          clear H
                          have H := H1
                          clear H1
                          simp only [Option.some.injEq, Prod.mk.injEq] at H
                          obtain ⟨rfl, rfl⟩ := H
                          obtain ⟨Ao67, co67, eo67⟩ := Kd.R_slice HO_7.out
                          subst eo67
                          go_wp2_with (first | (go_at_call 23; (with_reducible refine (impl_Term.calls _ _ x7_2 true _ ?side1 ?side2 A65.out).mono ?_); (case side1 => repeat (first | exact (Kd.R_reads' HO_7.out).2.2 | (with_reducible refine Kd.C_alloc ?_ _) | (with_reducible refine Kd.C_drewN ?_ _) | (with_reducible refine Kd.C_drew ?_))); (case side2 => exact (Kd.R_reads' HO_7.out).2.1); rintro e w68 ⟨rfl, hb⟩; have n0_ := Aside0.mk (Kd.S_below (by (with_reducible repeat (first | apply Kd.S_alloc | apply Kd.S_drewN | apply Kd.S_drew)); exact HO_4.out) hb); have n1_ := Aside0.mk (Kd.R_below (by (with_reducible repeat (first | apply Kd.R_alloc | apply Kd.R_drewN | apply Kd.R_drew)); exact HO_7.out) hb); have n2_ := Aside0.mk (Kd.R_below (by (with_reducible repeat (first | apply Kd.R_alloc | apply Kd.R_drewN | apply Kd.R_drew)); exact HO_17.out) hb); have n3_ := Aside0.mk (Kd.R_below (by (with_reducible repeat (first | apply Kd.R_alloc | apply Kd.R_drewN | apply Kd.R_drew)); exact HO_24.out) hb); have n4_ := Aside0.mk (below_step (by repeat (first | (with_reducible first | exact HB.out | apply below_alloc | apply pw_below_drewN | apply below_drew1) | exact HB.out)) hb); clear HO_4; clear HO_7; clear HO_17; clear HO_24; clear HB; have HO_4 := n0_; have HO_7 := n1_; have HO_17 := n2_; have HO_24 := n3_; have HB := n4_; clear n0_ n1_ n2_ n3_ n4_; (try clear hb); (try clear hb2); (try clear hk); (try clear hi)))
                          go_ret2
                          exact ⟨_, by first | rfl | (simp [errW_none, errW_some] <;> rfl) | (simp [*, errW_none, errW_some] <;> rfl), by first | exact Kd.S_nil _ _ _ _ _ | exact Kd.N_nil _ _ _ _ _ | exact Kd.V_nil _ _ _ _ _ | exact Kd.Q_nil _ _ _ _ _ | exact Kd.R_nil _ _ _ _ _, by repeat (first | (with_reducible first | exact HB.out | apply below_alloc | apply pw_below_drewN | apply below_drew1) | exact HB.out)⟩
                        · replace c66 := Bool.eq_false_iff.mpr c66
                          subst c66
                          have H1 : (if x4_1.length < 5864062014805 then (impl_ReadConstraint.l0 k2 (x4_1 ++ [x7_2]) t204 (t204.length : Int) (wrap64 (x19_1 + 1))) else (none)) = some (r1, r2) := by rw [if_neg (show ¬ (false = true) by decide)] at H; exact H
                          clear H
                          have H := H1
                          clear H1
                          by_cases c69 : x4_1.length < 5864062014805
                          · rw [if_pos c69] at H
                            have LMc69 := Aside0.mk c69
                            clear c69
                            obtain ⟨y212, hy212⟩ : ∃ y_ : List (List (S38)), y_ = (x4_1 ++ [x7_2]) := ⟨_, rfl⟩
                            replace H : (impl_ReadConstraint.l0 k2 y212 t204 (t204.length : Int) (wrap64 (x19_1 + 1))) = some (r1, r2) := by first | (rw [hy212]; with_reducible exact H) | (have H2_ := (Option.bind_some _ _).symm.trans H; rw [hy212]; with_reducible exact H2_) | (have H2_ := (Option.bind_some _ _).symm.trans H; with_reducible exact H2_) | with_reducible exact H | (rw [hy212]; exact H) | exact H
                            have Ny212 := Aside0.mk hy212
                            clear hy212
                            have H' := Aside0.mk H
                            clear H
                            obtain ⟨Ao70, co70, eo70⟩ := Kd.R_slice HO_7.out
                            subst eo70
                            go_wp2_with (first | (go_at_call 23; (with_reducible refine (impl_Term.calls _ _ x7_2 false _ ?side1 ?side2 A65.out).mono ?_); (case side1 => repeat (first | exact (Kd.R_reads' HO_7.out).2.2 | (with_reducible refine Kd.C_alloc ?_ _) | (with_reducible refine Kd.C_drewN ?_ _) | (with_reducible refine Kd.C_drew ?_))); (case side2 => exact (Kd.R_reads' HO_7.out).2.1); rintro e w71 ⟨rfl, hb⟩; have n0_ := Aside0.mk (Kd.S_below (by (with_reducible repeat (first | apply Kd.S_alloc | apply Kd.S_drewN | apply Kd.S_drew)); exact HO_4.out) hb); have n1_ := Aside0.mk (Kd.R_below (by (with_reducible repeat (first | apply Kd.R_alloc | apply Kd.R_drewN | apply Kd.R_drew)); exact HO_7.out) hb); have n2_ := Aside0.mk (Kd.R_below (by (with_reducible repeat (first | apply Kd.R_alloc | apply Kd.R_drewN | apply Kd.R_drew)); exact HO_17.out) hb); have n3_ := Aside0.mk (Kd.R_below (by (with_reducible repeat (first | apply Kd.R_alloc | apply Kd.R_drewN | apply Kd.R_drew)); exact HO_24.out) hb); have n4_ := Aside0.mk (below_step (by repeat (first | (with_reducible first | exact HB.out | apply below_alloc | apply pw_below_drewN | apply below_drew1) | exact HB.out)) hb); clear HO_4; clear HO_7; clear HO_17; clear HO_24; clear HB; have HO_4 := n0_; have HO_7 := n1_; have HO_17 := n2_; have HO_24 := n3_; have HB := n4_; clear n0_ n1_ n2_ n3_ n4_; (try clear hb); (try clear hb2); (try clear hk); (try clear hi)) | ((with_reducible refine gate_builtin (b := .append) (xs := #[.tmp 90, .tmp 92]) rfl ?_); (try (refine gate_guard (by rfl) ?_; dsimp only)); at_builtin; refine Kd.S_append (Kd.slice 38 k38) (w0 := w) w.heap.size rfl (.tmp 90) (.tmp 92) 22 36 (.slice none 0 0) 24 rfl Tryd.underlying22 info36 rfl (by decide) (by omega) u4 x4_1 x7_2 [.slice Ao70 x7_2.length co70] (fun _ => True) (fun k_ => some k_ = (.slice Ao70 x7_2.length co70 : Value).ownBlock) rfl rfl ?aP (fun k_ hk_ => ((Kd.R_mono (ok' := fun k_ => ((fun _ => True)) k_ ∧ some k_ ≠ (u4 : Value).ownBlock) (Kd.R_apart' (HO_7.out) (Kd.S_typed HO_4.out) (by decide)) (fun k_ hk => ⟨trivial, hk.2⟩))).1 k_ hk_.symm) ?aF ?aO ?aB ?aS ?aL ?_; (case aP => exact Kd.M_row (Kd.R_mono (Kd.R_tight rfl (Kd.R_mono (ok' := fun k_ => ((fun _ => True)) k_ ∧ some k_ ≠ (u4 : Value).ownBlock) (Kd.R_apart' (HO_7.out) (Kd.S_typed HO_4.out) (by decide)) (fun k_ hk => ⟨trivial, hk.2⟩))) (fun _ h_ => h_))); (case aB => exact (by repeat (first | (with_reducible first | exact HB.out | apply below_alloc | apply pw_below_drewN | apply below_drew1) | exact HB.out))); (case aF => exact (fun _ _ => trivial)); (case aO => exact (by (with_reducible repeat (first | apply Kd.S_alloc | apply Kd.S_drewN | apply Kd.S_drew)); exact Kd.S_mono HO_4.out (fun k_ hk => ⟨trivial, fun e_ => hk e_⟩))); (case aS => exact (below_size (by repeat (first | (with_reducible first | exact HB.out | apply below_alloc | apply pw_below_drewN | apply below_drew1) | exact HB.out)))); (case aL => have := LMc69.out; omega); intro v213 w72 ho hb hg hat; rw [← Ny212.out] at ho; have n0_ := Aside0.mk (Kd.R_over' (by (with_reducible repeat (first | apply Kd.R_alloc | apply Kd.R_drewN | apply Kd.R_drew)); exact HO_17.out) (Kd.S_typed (by (with_reducible repeat (first | apply Kd.S_alloc | apply Kd.S_drewN | apply Kd.S_drew)); exact HO_4.out)) (by decide) hg); have n1_ := Aside0.mk (Kd.R_over' (by (with_reducible repeat (first | apply Kd.R_alloc | apply Kd.R_drewN | apply Kd.R_drew)); exact HO_24.out) (Kd.S_typed (by (with_reducible repeat (first | apply Kd.S_alloc | apply Kd.S_drewN | apply Kd.S_drew)); exact HO_4.out)) (by decide) hg); have n2_ := Aside0.mk (hb); have n3_ := Aside0.mk (ho); clear HO_17; clear HO_24; clear HB; clear HO_4; clear HO_7; have HO_17 := n0_; have HO_24 := n1_; have HB := n2_; have HO214 := n3_; clear n0_ n1_ n2_ n3_; clear ho hb hg hat))
                            go_roundg k2
                            case measure => have := HK1.out; have := HK2.out; omega
                            case rel => exact ⟨(y212), (wrap64 (x19_1 + 1)), (by first | rfl | (simp; done) | (simp [*]; done)), H', ⟨by have := HK1.out; have := HK2.out; omega⟩, ⟨by (with_reducible repeat (first | apply Kd.S_alloc | apply Kd.S_drewN | apply Kd.S_drew)); exact HO214.out⟩, ⟨by (with_reducible repeat (first | apply Kd.R_alloc | apply Kd.R_drewN | apply Kd.R_drew)); exact Kd.R_mono HO_17.out (fun _ hk => trivial)⟩, ⟨by repeat (first | (with_reducible first | exact HB.out | apply below_alloc | apply pw_below_drewN | apply below_drew1) | exact HB.out)⟩⟩
                          · rw [if_neg c69] at H
                            exact absurd H (by simp)
                      · rw [if_neg c64] at H
                        have c64b0 : decide (1 < (x7_2.length : Int)) = false := decide_eq_false c64
                        have c64b1 : decide (1 < x7_2.length) = false := decide_eq_false (by omega)
                        clear c64
                        by_cases c73 : x4_1.length < 5864062014805
                        · rw [if_pos c73] at H
                          have LMc73 := Aside0.mk c73
                          clear c73
                          obtain ⟨y215, hy215⟩ : ∃ y_ : List (List (S38)), y_ = (x4_1 ++ [x7_2]) := ⟨_, rfl⟩
                          replace H : (impl_ReadConstraint.l0 k2 y215 t204 (t204.length : Int) (wrap64 (x19_1 + 1))) = some (r1, r2) := by first | (rw [hy215]; with_reducible exact H) | (have H2_ := (Option.bind_some _ _).symm.trans H; rw [hy215]; with_reducible exact H2_) | (have H2_ := (Option.bind_some _ _).symm.trans H; with_reducible exact H2_) | with_reducible exact H | (rw [hy215]; exact H) | exact H
                          have Ny215 := Aside0.mk hy215
                          clear hy215
                          have H' := Aside0.mk H
                          clear H
                          obtain ⟨Ao74, co74, eo74⟩ := Kd.R_slice HO_7.out
                          subst eo74
                          go_wp2_with (first | ((with_reducible refine gate_builtin (b := .append) (xs := #[.tmp 90, .tmp 92]) rfl ?_); (try (refine gate_guard (by rfl) ?_; dsimp only)); at_builtin; refine Kd.S_append (Kd.slice 38 k38) (w0 := w) w.heap.size rfl (.tmp 90) (.tmp 92) 22 36 (.slice none 0 0) 24 rfl Tryd.underlying22 info36 rfl (by decide) (by omega) u4 x4_1 x7_2 [.slice Ao74 x7_2.length co74] (fun _ => True) (fun k_ => some k_ = (.slice Ao74 x7_2.length co74 : Value).ownBlock) rfl rfl ?aP (fun k_ hk_ => ((Kd.R_mono (ok' := fun k_ => ((fun _ => True)) k_ ∧ some k_ ≠ (u4 : Value).ownBlock) (Kd.R_apart' (HO_7.out) (Kd.S_typed HO_4.out) (by decide)) (fun k_ hk => ⟨trivial, hk.2⟩))).1 k_ hk_.symm) ?aF ?aO ?aB ?aS ?aL ?_; (case aP => exact Kd.M_row (Kd.R_mono (Kd.R_tight rfl (Kd.R_mono (ok' := fun k_ => ((fun _ => True)) k_ ∧ some k_ ≠ (u4 : Value).ownBlock) (Kd.R_apart' (HO_7.out) (Kd.S_typed HO_4.out) (by decide)) (fun k_ hk => ⟨trivial, hk.2⟩))) (fun _ h_ => h_))); (case aB => exact (by repeat (first | (with_reducible first | exact HB.out | apply below_alloc | apply pw_below_drewN | apply below_drew1) | exact HB.out))); (case aF => exact (fun _ _ => trivial)); (case aO => exact (by (with_reducible repeat (first | apply Kd.S_alloc | apply Kd.S_drewN | apply Kd.S_drew)); exact Kd.S_mono HO_4.out (fun k_ hk => ⟨trivial, fun e_ => hk e_⟩))); (case aS => exact (below_size (by repeat (first | (with_reducible first | exact HB.out | apply below_alloc | apply pw_below_drewN | apply below_drew1) | exact HB.out)))); (case aL => have := LMc73.out; omega); intro v216 w75 ho hb hg hat; rw [← Ny215.out] at ho; have n0_ := Aside0.mk (Kd.R_over' (by (with_reducible repeat (first | apply Kd.R_alloc | apply Kd.R_drewN | apply Kd.R_drew)); exact HO_17.out) (Kd.S_typed (by (with_reducible repeat (first | apply Kd.S_alloc | apply Kd.S_drewN | apply Kd.S_drew)); exact HO_4.out)) (by decide) hg); have n1_ := Aside0.mk (Kd.R_over' (by (with_reducible repeat (first | apply Kd.R_alloc | apply Kd.R_drewN | apply Kd.R_drew)); exact HO_24.out) (Kd.S_typed (by (with_reducible repeat (first | apply Kd.S_alloc | apply Kd.S_drewN | apply Kd.S_drew)); exact HO_4.out)) (by decide) hg); have n2_ := Aside0.mk (hb); have n3_ := Aside0.mk (ho); clear HO_17; clear HO_24; clear HB; clear HO_4; clear HO_7; have HO_17 := n0_; have HO_24 := n1_; have HB := n2_; have HO217 := n3_; clear n0_ n1_ n2_ n3_; clear ho hb hg hat))
                          go_roundg k2
                          case measure => have := HK1.out; have := HK2.out; omega
                          case rel => exact ⟨(y215), (wrap64 (x19_1 + 1)), (by first | rfl | (simp; done) | (simp [*]; done)), H', ⟨by have := HK1.out; have := HK2.out; omega⟩, ⟨by (with_reducible repeat (first | apply Kd.S_alloc | apply Kd.S_drewN | apply Kd.S_drew)); exact HO217.out⟩, ⟨by (with_reducible repeat (first | apply Kd.R_alloc | apply Kd.R_drewN | apply Kd.R_drew)); exact Kd.R_mono HO_17.out (fun _ hk => trivial)⟩, ⟨by repeat (first | (with_reducible first | exact HB.out | apply below_alloc | apply pw_below_drewN | apply below_drew1) | exact HB.out)⟩⟩
                        · rw [if_neg c73] at H
                          exact absurd H (by simp)
            · rw [if_neg c8] at H
              exact absurd H (by simp)
          · rw [if_neg c7] at H
            exact absurd H (by simp)
        · rw [if_neg c6] at H
          have c6b0 : decide (x19_1 < (t204.length : Int)) = false := decide_eq_false c6
          clear c6
          simp only [Option.some.injEq, Prod.mk.injEq] at H
          obtain ⟨rfl, rfl⟩ := H
          go_wp2
          go_ret2
          exact ⟨_, by first | rfl | (simp [errW_none, errW_some] <;> rfl) | (simp [*, errW_none, errW_some] <;> rfl), by (with_reducible repeat (first | apply Kd.S_alloc | apply Kd.S_drewN | apply Kd.S_drew)); exact HO_4.out, by repeat (first | (with_reducible first | exact HB.out | apply below_alloc | apply pw_below_drewN | apply below_drew1) | exact HB.out)⟩
end Go.Proofs.YthfohhpjanoimaaDoor.P
end

section
namespace Go.Proofs.YthfohhpjanoimaaDoor.P
open Go.RowKit Go.Proofs.YthfohhpjanoimaaDoorW.PrintWords Go.Proofs.YthfohhpjanoimaaDoorW.PrintLast Go.Proofs.YthfohhpjanoimaaDoorW.PrintMore Go.Proofs.YthfohhpjanoimaaDoorM
attribute [local go_sem] max2_int min2_int max_two min_two max_three min_three max_four min_four   -- for this text's walks alone
set_option linter.unusedVariables false
set_option linter.unusedSimpArgs false
theorem eqA38 (d : Nat) (w : World) (x0 y0 : ByteArray) (x1 y1 : ByteArray) :
    (Op.equalIn (d + 2) 38 (.agg #[.string x0, .string x1]) (.agg #[.string y0, .string y1])).run Tryd.prog w = .ok (x0.toList == y0.toList && (x1.toList == y1.toList)) w := by
  refine eqA_of Tryd.underlying38 (by kernel_rfl) ?_
  refine eqf_cons (by rfl) (by go_simp; rfl) (by go_simp; rfl) (by go_simp) ?_
  exact eqf_last (by rfl) (by go_simp; rfl) (by go_simp; rfl) (by go_simp)
end Go.Proofs.YthfohhpjanoimaaDoor.P
end

section
namespace Go.Proofs.YthfohhpjanoimaaDoor.P
open Go.RowKit Go.Proofs.YthfohhpjanoimaaDoorW.PrintWords Go.Proofs.YthfohhpjanoimaaDoorW.PrintLast Go.Proofs.YthfohhpjanoimaaDoorW.PrintMore Go.Proofs.YthfohhpjanoimaaDoorM
attribute [local go_sem] max2_int min2_int max_two min_two max_three min_three max_four min_four   -- for this text's walks alone
set_option linter.unusedVariables false
set_option linter.unusedSimpArgs false
attribute [local go_sem high] eqA38
end Go.Proofs.YthfohhpjanoimaaDoor.P
end

section
namespace Go.Proofs.YthfohhpjanoimaaDoor.P
open Go.RowKit Go.Proofs.YthfohhpjanoimaaDoorW.PrintWords Go.Proofs.YthfohhpjanoimaaDoorW.PrintLast Go.Proofs.YthfohhpjanoimaaDoorW.PrintMore Go.Proofs.YthfohhpjanoimaaDoorM
attribute [local go_sem] max2_int min2_int max_two min_two max_three min_three max_four min_four   -- for this text's walks alone
set_option linter.unusedVariables false
set_option linter.unusedSimpArgs false
end Go.Proofs.YthfohhpjanoimaaDoor.P
end

section
namespace Go.Proofs.YthfohhpjanoimaaDoor.P
open Go.RowKit Go.Proofs.YthfohhpjanoimaaDoorW.PrintWords Go.Proofs.YthfohhpjanoimaaDoorW.PrintLast Go.Proofs.YthfohhpjanoimaaDoorW.PrintMore Go.Proofs.YthfohhpjanoimaaDoorM
attribute [local go_sem] max2_int min2_int max_two min_two max_three min_three max_four min_four   -- for this text's walks alone
set_option linter.unusedVariables false
set_option linter.unusedSimpArgs false
end Go.Proofs.YthfohhpjanoimaaDoor.P
end

section
namespace Go.Proofs.YthfohhpjanoimaaDoor.P
open Go.RowKit Go.Proofs.YthfohhpjanoimaaDoorW.PrintWords Go.Proofs.YthfohhpjanoimaaDoorW.PrintLast Go.Proofs.YthfohhpjanoimaaDoorW.PrintMore Go.Proofs.YthfohhpjanoimaaDoorM
attribute [local go_sem] max2_int min2_int max_two min_two max_three min_three max_four min_four   -- for this text's walks alone
set_option linter.unusedVariables false
set_option linter.unusedSimpArgs false
def laws_eqTerm.f (a0_0 : ByteArray) (a0_1 : ByteArray) (a1_0 : ByteArray) (a1_1 : ByteArray) : Option (Bool) := if a0_0.toList = a1_0.toList then (if a0_1.toList = a1_1.toList then (some true) else (some false)) else (some false)
set_option maxHeartbeats 8000000 in
set_option maxRecDepth 100000 in
theorem laws_eqTerm.calls (a0_0 : ByteArray) (a0_1 : ByteArray) (a1_0 : ByteArray) (a1_1 : ByteArray) (r : Bool) (w : World) (h : laws_eqTerm.f a0_0 a0_1 a1_0 a1_1 = some r) :
    Calls Tryd.prog 40 #[.agg #[.string a0_0, .string a0_1], .agg #[.string a1_0, .string a1_1]] w fun e w' => e = .returned (.bool r) ∧ Below w.heap.size w w' := by
  have hu38 := Tryd.underlying38
  have HB := Aside0.mk (Below.refl w.heap.size w)
  have H : (if a0_0.toList = a1_0.toList then (if a0_1.toList = a1_1.toList then (some true) else (some false)) else (some false)) = some r := h
  clear h
  by_cases c3 : a0_0.toList = a1_0.toList
  · rw [if_pos c3] at H
    have c3b0 : (a0_0.toList == a1_0.toList) = true := beq_iff_eq.mpr c3
    have c3b1 : (a0_0.toList != a1_0.toList) = false := bne_eq_false_iff_eq.mpr c3
    clear c3
    by_cases c4 : a0_1.toList = a1_1.toList
    · rw [if_pos c4] at H
      have c4b0 : (a0_1.toList == a1_1.toList) = true := beq_iff_eq.mpr c4
      have c4b1 : (a0_1.toList != a1_1.toList) = false := bne_eq_false_iff_eq.mpr c4
      clear c4
      obtain rfl := Option.some.inj H
      go_enter Tryd.func40, Tryd.ntmps40
      go_wp2_with (first | ((with_reducible refine gate_dst (N := 2) rfl ?_); refine box_event ?hg (N := 2) ?hd (cs := #[.string a0_0, .string a0_1]) (t := 38) ?hr ?_; (case hd => rfl); (case hg => rfl); (case hr => first | (go_simp; done) | (go_simp; rfl)); intro gb239 hg w5 hbox hb; have n0_ := Aside0.mk (below_step (by repeat (first | (with_reducible first | exact HB.out | apply below_alloc | apply pw_below_drewN | apply below_drew1) | exact HB.out)) hb); have n1_ := Aside0.mk (hbox); have n2_ := Aside0.mk ((by rw [hg]; exact (below_size (by repeat (first | (with_reducible first | exact HB.out | apply below_alloc | apply pw_below_drewN | apply below_drew1) | exact HB.out))) : w.heap.size ≤ gb239)); have n3_ := Aside0.mk ((by rw [hg]; exact (below_size (by repeat (first | (with_reducible first | exact HB.out | apply below_alloc | apply pw_below_drewN | apply below_drew1) | exact HB.out))) : w.heap.size ≤ gb239)); clear HB; have HB := n0_; have BK239 := n1_; have GW239 := n2_; have GE239 := n3_; clear n0_ n1_ n2_ n3_; clear hb hbox hg) | ((with_reducible refine gate_dst (N := 3) rfl ?_); refine box_event ?hg (N := 3) ?hd (cs := #[.string a1_0, .string a1_1]) (t := 38) ?hr ?_; (case hd => rfl); (case hg => rfl); (case hr => first | (go_simp; done) | (go_simp; rfl)); intro gb240 hg w6 hbox hb; have n0_ := Aside0.mk (blk_below (g := gb239) (o := .cells #[.string a0_0, .string a0_1] 38 (0, 0)) (by (with_reducible repeat (first | refine blk_drewN ?_ _ | refine blk_drew ?_ | refine blk_alloc ?_ _)); exact BK239.out) hb); have n1_ := Aside0.mk (below_step (by repeat (first | (with_reducible first | exact HB.out | apply below_alloc | apply pw_below_drewN | apply below_drew1 | refine below_set ?_ GE239.out) | exact HB.out)) hb); have n2_ := Aside0.mk (hbox); have n3_ := Aside0.mk ((by rw [hg]; exact (below_size (by repeat (first | (with_reducible first | exact HB.out | apply below_alloc | apply pw_below_drewN | apply below_drew1 | refine below_set ?_ GE239.out) | exact HB.out))) : w.heap.size ≤ gb240)); have n4_ := Aside0.mk ((by rw [hg]; exact (below_size (by repeat (first | (with_reducible first | exact HB.out | apply below_alloc | apply pw_below_drewN | apply below_drew1 | refine below_set ?_ GE239.out) | exact HB.out))) : w.heap.size ≤ gb240)); have n5_ := Aside0.mk ((by rw [hg]; exact Nat.ne_of_lt (blk_lt (g := gb239) (o := .cells #[.string a0_0, .string a0_1] 38 (0, 0)) (by (with_reducible repeat (first | refine blk_drewN ?_ _ | refine blk_drew ?_ | refine blk_alloc ?_ _)); exact BK239.out)) : gb239 ≠ gb240)); have n6_ := Aside0.mk ((by rw [hg]; exact Nat.ne_of_gt (blk_lt (g := gb239) (o := .cells #[.string a0_0, .string a0_1] 38 (0, 0)) (by (with_reducible repeat (first | refine blk_drewN ?_ _ | refine blk_drew ?_ | refine blk_alloc ?_ _)); exact BK239.out)) : gb240 ≠ gb239)); clear BK239; clear HB; have BK239 := n0_; have HB := n1_; have BK240 := n2_; have GW240 := n3_; have GE240 := n4_; have NB239_240 := n5_; have NB240_239 := n6_; clear n0_ n1_ n2_ n3_ n4_ n5_ n6_; clear hb hbox hg; have hnb7 := NB239_240.out; have hnc7 := NB240_239.out; have hcz8_0 : w6.cell? ⟨gb239, 0, none⟩ = some (.string a0_0) := (blk_cell BK239.out 0).trans rfl; have hcz8_1 : w6.cell? ⟨gb239, 1, none⟩ = some (.string a0_1) := (blk_cell BK239.out 1).trans rfl; have hfz8_0 := blk_frozen BK239.out 0; have hfz8_1 := blk_frozen BK239.out 1; have hcz9_0 : w6.cell? ⟨gb240, 0, none⟩ = some (.string a1_0) := (blk_cell BK240.out 0).trans rfl; have hcz9_1 : w6.cell? ⟨gb240, 1, none⟩ = some (.string a1_1) := (blk_cell BK240.out 1).trans rfl; have hfz9_0 := blk_frozen BK240.out 0; have hfz9_1 := blk_frozen BK240.out 1))
      go_ret
      exact ⟨by first | rfl | (simp [errW_none, errW_some] <;> rfl) | (simp [*, errW_none, errW_some] <;> rfl), by repeat (first | (with_reducible first | exact HB.out | apply below_alloc | apply pw_below_drewN | apply below_drew1 | refine below_set ?_ GE239.out | refine below_set ?_ GE240.out) | exact HB.out)⟩
    · rw [if_neg c4] at H
      have c4b0 : (a0_1.toList == a1_1.toList) = false := beq_eq_false_iff_ne.mpr c4
      have c4b1 : (a0_1.toList != a1_1.toList) = true := bne_iff_ne.mpr c4
      obtain rfl := Option.some.inj H
      go_enter Tryd.func40, Tryd.ntmps40
      go_wp2_with (first | ((with_reducible refine gate_dst (N := 2) rfl ?_); refine box_event ?hg (N := 2) ?hd (cs := #[.string a0_0, .string a0_1]) (t := 38) ?hr ?_; (case hd => rfl); (case hg => rfl); (case hr => first | (go_simp; done) | (go_simp; rfl)); intro gb239 hg w10 hbox hb; have n0_ := Aside0.mk (below_step (by repeat (first | (with_reducible first | exact HB.out | apply below_alloc | apply pw_below_drewN | apply below_drew1) | exact HB.out)) hb); have n1_ := Aside0.mk (hbox); have n2_ := Aside0.mk ((by rw [hg]; exact (below_size (by repeat (first | (with_reducible first | exact HB.out | apply below_alloc | apply pw_below_drewN | apply below_drew1) | exact HB.out))) : w.heap.size ≤ gb239)); have n3_ := Aside0.mk ((by rw [hg]; exact (below_size (by repeat (first | (with_reducible first | exact HB.out | apply below_alloc | apply pw_below_drewN | apply below_drew1) | exact HB.out))) : w.heap.size ≤ gb239)); clear HB; have HB := n0_; have BK239 := n1_; have GW239 := n2_; have GE239 := n3_; clear n0_ n1_ n2_ n3_; clear hb hbox hg) | ((with_reducible refine gate_dst (N := 3) rfl ?_); refine box_event ?hg (N := 3) ?hd (cs := #[.string a1_0, .string a1_1]) (t := 38) ?hr ?_; (case hd => rfl); (case hg => rfl); (case hr => first | (go_simp; done) | (go_simp; rfl)); intro gb240 hg w11 hbox hb; have n0_ := Aside0.mk (blk_below (g := gb239) (o := .cells #[.string a0_0, .string a0_1] 38 (0, 0)) (by (with_reducible repeat (first | refine blk_drewN ?_ _ | refine blk_drew ?_ | refine blk_alloc ?_ _)); exact BK239.out) hb); have n1_ := Aside0.mk (below_step (by repeat (first | (with_reducible first | exact HB.out | apply below_alloc | apply pw_below_drewN | apply below_drew1 | refine below_set ?_ GE239.out) | exact HB.out)) hb); have n2_ := Aside0.mk (hbox); have n3_ := Aside0.mk ((by rw [hg]; exact (below_size (by repeat (first | (with_reducible first | exact HB.out | apply below_alloc | apply pw_below_drewN | apply below_drew1 | refine below_set ?_ GE239.out) | exact HB.out))) : w.heap.size ≤ gb240)); have n4_ := Aside0.mk ((by rw [hg]; exact (below_size (by repeat (first | (with_reducible first | exact HB.out | apply below_alloc | apply pw_below_drewN | apply below_drew1 | refine below_set ?_ GE239.out) | exact HB.out))) : w.heap.size ≤ gb240)); have n5_ := Aside0.mk ((by rw [hg]; exact Nat.ne_of_lt (blk_lt (g := gb239) (o := .cells #[.string a0_0, .string a0_1] 38 (0, 0)) (by (with_reducible repeat (first | refine blk_drewN ?_ _ | refine blk_drew ?_ | refine blk_alloc ?_ _)); exact BK239.out)) : gb239 ≠ gb240)); have n6_ := Aside0.mk ((by rw [hg]; exact Nat.ne_of_gt (blk_lt (g := gb239) (o := .cells #[.string a0_0, .string a0_1] 38 (0, 0)) (by (with_reducible repeat (first | refine blk_drewN ?_ _ | refine blk_drew ?_ | refine blk_alloc ?_ _)); exact BK239.out)) : gb240 ≠ gb239)); clear BK239; clear HB; have BK239 := n0_; have HB := n1_; have BK240 := n2_; have GW240 := n3_; have GE240 := n4_; have NB239_240 := n5_; have NB240_239 := n6_; clear n0_ n1_ n2_ n3_ n4_ n5_ n6_; clear hb hbox hg; have hnb12 := NB239_240.out; have hnc12 := NB240_239.out; have hcz13_0 : w11.cell? ⟨gb239, 0, none⟩ = some (.string a0_0) := (blk_cell BK239.out 0).trans rfl; have hcz13_1 : w11.cell? ⟨gb239, 1, none⟩ = some (.string a0_1) := (blk_cell BK239.out 1).trans rfl; have hfz13_0 := blk_frozen BK239.out 0; have hfz13_1 := blk_frozen BK239.out 1; have hcz14_0 : w11.cell? ⟨gb240, 0, none⟩ = some (.string a1_0) := (blk_cell BK240.out 0).trans rfl; have hcz14_1 : w11.cell? ⟨gb240, 1, none⟩ = some (.string a1_1) := (blk_cell BK240.out 1).trans rfl; have hfz14_0 := blk_frozen BK240.out 0; have hfz14_1 := blk_frozen BK240.out 1))
      go_ret
      exact ⟨by first | rfl | (simp [errW_none, errW_some] <;> rfl) | (simp [*, errW_none, errW_some] <;> rfl), by repeat (first | (with_reducible first | exact HB.out | apply below_alloc | apply pw_below_drewN | apply below_drew1 | refine below_set ?_ GE239.out | refine below_set ?_ GE240.out) | exact HB.out)⟩
  · rw [if_neg c3] at H
    have c3b0 : (a0_0.toList == a1_0.toList) = false := beq_eq_false_iff_ne.mpr c3
    have c3b1 : (a0_0.toList != a1_0.toList) = true := bne_iff_ne.mpr c3
    obtain rfl := Option.some.inj H
    go_enter Tryd.func40, Tryd.ntmps40
    go_wp2_with (first | ((with_reducible refine gate_dst (N := 2) rfl ?_); refine box_event ?hg (N := 2) ?hd (cs := #[.string a0_0, .string a0_1]) (t := 38) ?hr ?_; (case hd => rfl); (case hg => rfl); (case hr => first | (go_simp; done) | (go_simp; rfl)); intro gb239 hg w15 hbox hb; have n0_ := Aside0.mk (below_step (by repeat (first | (with_reducible first | exact HB.out | apply below_alloc | apply pw_below_drewN | apply below_drew1) | exact HB.out)) hb); have n1_ := Aside0.mk (hbox); have n2_ := Aside0.mk ((by rw [hg]; exact (below_size (by repeat (first | (with_reducible first | exact HB.out | apply below_alloc | apply pw_below_drewN | apply below_drew1) | exact HB.out))) : w.heap.size ≤ gb239)); have n3_ := Aside0.mk ((by rw [hg]; exact (below_size (by repeat (first | (with_reducible first | exact HB.out | apply below_alloc | apply pw_below_drewN | apply below_drew1) | exact HB.out))) : w.heap.size ≤ gb239)); clear HB; have HB := n0_; have BK239 := n1_; have GW239 := n2_; have GE239 := n3_; clear n0_ n1_ n2_ n3_; clear hb hbox hg) | ((with_reducible refine gate_dst (N := 3) rfl ?_); refine box_event ?hg (N := 3) ?hd (cs := #[.string a1_0, .string a1_1]) (t := 38) ?hr ?_; (case hd => rfl); (case hg => rfl); (case hr => first | (go_simp; done) | (go_simp; rfl)); intro gb240 hg w16 hbox hb; have n0_ := Aside0.mk (blk_below (g := gb239) (o := .cells #[.string a0_0, .string a0_1] 38 (0, 0)) (by (with_reducible repeat (first | refine blk_drewN ?_ _ | refine blk_drew ?_ | refine blk_alloc ?_ _)); exact BK239.out) hb); have n1_ := Aside0.mk (below_step (by repeat (first | (with_reducible first | exact HB.out | apply below_alloc | apply pw_below_drewN | apply below_drew1 | refine below_set ?_ GE239.out) | exact HB.out)) hb); have n2_ := Aside0.mk (hbox); have n3_ := Aside0.mk ((by rw [hg]; exact (below_size (by repeat (first | (with_reducible first | exact HB.out | apply below_alloc | apply pw_below_drewN | apply below_drew1 | refine below_set ?_ GE239.out) | exact HB.out))) : w.heap.size ≤ gb240)); have n4_ := Aside0.mk ((by rw [hg]; exact (below_size (by repeat (first | (with_reducible first | exact HB.out | apply below_alloc | apply pw_below_drewN | apply below_drew1 | refine below_set ?_ GE239.out) | exact HB.out))) : w.heap.size ≤ gb240)); have n5_ := Aside0.mk ((by rw [hg]; exact Nat.ne_of_lt (blk_lt (g := gb239) (o := .cells #[.string a0_0, .string a0_1] 38 (0, 0)) (by (with_reducible repeat (first | refine blk_drewN ?_ _ | refine blk_drew ?_ | refine blk_alloc ?_ _)); exact BK239.out)) : gb239 ≠ gb240)); have n6_ := Aside0.mk ((by rw [hg]; exact Nat.ne_of_gt (blk_lt (g := gb239) (o := .cells #[.string a0_0, .string a0_1] 38 (0, 0)) (by (with_reducible repeat (first | refine blk_drewN ?_ _ | refine blk_drew ?_ | refine blk_alloc ?_ _)); exact BK239.out)) : gb240 ≠ gb239)); clear BK239; clear HB; have BK239 := n0_; have HB := n1_; have BK240 := n2_; have GW240 := n3_; have GE240 := n4_; have NB239_240 := n5_; have NB240_239 := n6_; clear n0_ n1_ n2_ n3_ n4_ n5_ n6_; clear hb hbox hg; have hnb17 := NB239_240.out; have hnc17 := NB240_239.out; have hcz18_0 : w16.cell? ⟨gb239, 0, none⟩ = some (.string a0_0) := (blk_cell BK239.out 0).trans rfl; have hcz18_1 : w16.cell? ⟨gb239, 1, none⟩ = some (.string a0_1) := (blk_cell BK239.out 1).trans rfl; have hfz18_0 := blk_frozen BK239.out 0; have hfz18_1 := blk_frozen BK239.out 1; have hcz19_0 : w16.cell? ⟨gb240, 0, none⟩ = some (.string a1_0) := (blk_cell BK240.out 0).trans rfl; have hcz19_1 : w16.cell? ⟨gb240, 1, none⟩ = some (.string a1_1) := (blk_cell BK240.out 1).trans rfl; have hfz19_0 := blk_frozen BK240.out 0; have hfz19_1 := blk_frozen BK240.out 1))
    go_ret
    exact ⟨by first | rfl | (simp [errW_none, errW_some] <;> rfl) | (simp [*, errW_none, errW_some] <;> rfl), by repeat (first | (with_reducible first | exact HB.out | apply below_alloc | apply pw_below_drewN | apply below_drew1 | refine below_set ?_ GE239.out | refine below_set ?_ GE240.out) | exact HB.out)⟩
def laws_eqTermS.l0 : Nat → List (S38) → List (S38) → Int → Option (Bool)
  | 0, _, _, _ => none
  | k + 1, x0, x1, x5 => if x5 < (x0.length : Int) then (if 0 ≤ x5 then (if x5 < (x1.length : Int) then ((laws_eqTerm.f ((rd_T38 x0 x5).f0) ((rd_T38 x0 x5).f1) ((rd_T38 x1 x5).f0) ((rd_T38 x1 x5).f1)).bind fun t243 => (if t243 = true then (laws_eqTermS.l0 k x0 x1 (wrap64 (x5 + 1))) else (some false))) else (none)) else (none)) else (some true)
def laws_eqTermS.f (k : Nat) (l0 : List (S38)) (l1 : List (S38)) : Option (Bool) := if (l0.length : Int) = (l1.length : Int) then (laws_eqTermS.l0 k l0 l1 0) else (some false)
def laws_eqTermS.T6 : Bool × List (List Nat × List Nat) := (true, [([], []), ([], []), ([0, 1], [0, 1]), ([2], [2]), ([], []), ([], []), ([4, 5], [4, 5]), ([6], [6]), ([3, 7], [3, 7]), ([8], [8])])
def laws_eqTermS.B6 : List Nat := [0, 0, 3, 7, 0, 0, 48, 112, 255, 511]
theorem laws_eqTermS.tab6 : rtab .any (opsOf Tryd.f25 6) = laws_eqTermS.T6 := by kernel_rfl
theorem laws_eqTermS.bits6 : waitsOk laws_eqTermS.T6.2 laws_eqTermS.B6 = true := by kernel_rfl
set_option maxHeartbeats 8000000 in
set_option maxRecDepth 100000 in
theorem laws_eqTermS.calls (k : Nat) (A0 : Option Addr) (c0 : Nat) (l0 : List (S38)) (A1 : Option Addr) (c1 : Nat) (l1 : List (S38)) (r : Bool) (w : World) (hr0 : Kd.C k38 w A0 l0.length l0) (hc0 : l0.length ≤ c0) (hr1 : Kd.C k38 w A1 l1.length l1) (hc1 : l1.length ≤ c1) (h : laws_eqTermS.f k l0 l1 = some r) :
    Calls Tryd.prog 25 #[.slice A0 l0.length c0, .slice A1 l1.length c1] w fun e w' => e = .returned (.bool r) ∧ Below w.heap.size w w' := by
  have hu38 := Tryd.underlying38
  have HR0 := Aside0.mk hr0
  have HC0 := Aside0.mk hc0
  clear hr0 hc0
  have HR1 := Aside0.mk hr1
  have HC1 := Aside0.mk hc1
  clear hr1 hc1
  have HB := Aside0.mk (Below.refl w.heap.size w)
  have H : (if (l0.length : Int) = (l1.length : Int) then (laws_eqTermS.l0 k l0 l1 0) else (some false)) = some r := h
  clear h
  by_cases c3 : (l0.length : Int) = (l1.length : Int)
  · rw [if_pos c3] at H
    have c3b0 : ((l0.length : Int) == (l1.length : Int)) = true := beq_iff_eq.mpr c3
    have c3b1 : ((l0.length : Int) != (l1.length : Int)) = false := bne_eq_false_iff_eq.mpr c3
    have c3b2 : (l0.length == l1.length) = true := by first | simpa using c3 | (simp at c3 ⊢; omega)
    clear c3
    have H' := Aside0.mk H
    clear H
    go_enter Tryd.func25, Tryd.ntmps25
    go_wp2
    go_loopg [5] k (fun kq v5 w' => ∃ (x5_1 : Int), v5 = .int .i64 x5_1 ∧ Aside0 (laws_eqTermS.l0 kq l0 l1 x5_1 = some r) ∧ Aside0 (kq ≤ k) ∧ Aside0 (Below w.heap.size w w'))
    case atStart => exact ⟨(0), (by first | rfl | (simp; done) | (simp [*]; done)), H', ⟨Nat.le_refl _⟩, ⟨by repeat (first | (with_reducible first | exact HB.out | apply below_alloc | apply pw_below_drewN | apply below_drew1) | exact HB.out)⟩⟩
    case round =>
      clear H'
      try clear c1
      try clear c2
      try clear p2
      try clear c3
      try clear c3b0
      try clear c3b1
      try clear c3b2
      obtain ⟨x5_1, rfl, HA, HK1, HB⟩ := hrel
      cases gk with
      | zero => exact absurd HA.out (by simp [laws_eqTermS.l0])
      | succ k1 =>
        have H := HA.out
        clear HA
        simp only [laws_eqTermS.l0] at H
        by_cases c4 : x5_1 < (l0.length : Int)
        · rw [if_pos c4] at H
          have c4b0 : decide (x5_1 < (l0.length : Int)) = true := decide_eq_true c4
          clear c4
          by_cases c5 : 0 ≤ x5_1
          · rw [if_pos c5] at H
            have c5b0 : decide (0 ≤ x5_1) = true := decide_eq_true c5
            clear c5
            by_cases c6 : x5_1 < (l1.length : Int)
            · rw [if_pos c6] at H
              have c6b0 : decide (x5_1 < (l1.length : Int)) = true := decide_eq_true c6
              clear c6
              replace H := Option.bind_eq_some_iff.mp H
              obtain ⟨t243, A70, H⟩ := H
              replace H : (if t243 = true then (laws_eqTermS.l0 k1 l0 l1 (wrap64 (x5_1 + 1))) else (some false)) = some r := H
              have A7 := Aside0.mk A70
              clear A70
              by_cases c8 : t243 = true
              · subst c8
                have H1 : (laws_eqTermS.l0 k1 l0 l1 (wrap64 (x5_1 + 1))) = some r := by rw [if_pos rfl] at H; exact H
                clear H
                have H := H1
                clear H1
                have H' := Aside0.mk H
                clear H
                try go_wp2
                have n0_ := Aside0.mk (below_drew1 HB.out)
                clear HB
                have HB := n0_
                clear n0_
                have p241 : 0 ≤ (x5_1 : Int) := of_decide_eq_true (by first | (with_reducible assumption) | assumption)
                have q241 : x5_1 < (l0.length : Int) := of_decide_eq_true (by first | (with_reducible assumption) | assumption)
                obtain ⟨ad241, e241, hx241_0, hx241_1⟩ := at_T38 HR0.out x5_1 p241 q241
                have hw241_1 := hx241_1
                have hw241_0 := hx241_0
                cases e241
                replace hx241_0 := (HB.out.cell (World.block_lt_of_cell? w _ hx241_0)).trans hx241_0
                replace hx241_1 := (HB.out.cell (World.block_lt_of_cell? w _ hx241_1)).trans hx241_1
                replace p241 := eq_true p241
                replace q241 := eq_true q241
                have p242 : 0 ≤ (x5_1 : Int) := of_decide_eq_true (by first | (with_reducible assumption) | assumption)
                have q242 : x5_1 < (l1.length : Int) := of_decide_eq_true (by first | (with_reducible assumption) | assumption)
                obtain ⟨ad242, e242, hx242_0, hx242_1⟩ := at_T38 HR1.out x5_1 p242 q242
                have hw242_1 := hx242_1
                have hw242_0 := hx242_0
                cases e242
                replace hx242_0 := (HB.out.cell (World.block_lt_of_cell? w _ hx242_0)).trans hx242_0
                replace hx242_1 := (HB.out.cell (World.block_lt_of_cell? w _ hx242_1)).trans hx242_1
                replace p242 := eq_true p242
                replace q242 := eq_true q242
                refine start_ (n := 10) (S := fun w' => w'.cell? (ad241.add ((x5_1).toNat * 2)) = some (.string ((rd_T38 l0 x5_1).f0)) ∧ w'.cell? ⟨(ad241.add ((x5_1).toNat * 2)).block, (ad241.add ((x5_1).toNat * 2)).off + 1, none⟩ = some (.string ((rd_T38 l0 x5_1).f1)) ∧ w'.cell? (ad242.add ((x5_1).toNat * 2)) = some (.string ((rd_T38 l1 x5_1).f0)) ∧ w'.cell? ⟨(ad242.add ((x5_1).toNat * 2)).block, (ad242.add ((x5_1).toNat * 2)).off + 1, none⟩ = some (.string ((rd_T38 l1 x5_1).f1))) (ds := []) #[false, false, false, false, false, false, false, false, false, false] (by kernel_rfl) rfl rfl ⟨((HB.out.cell (World.block_lt_of_cell? w _ hw241_0)).trans hw241_0), ((HB.out.cell (World.block_lt_of_cell? w _ hw241_1)).trans hw241_1), ((HB.out.cell (World.block_lt_of_cell? w _ hw242_0)).trans hw242_0), ((HB.out.cell (World.block_lt_of_cell? w _ hw242_1)).trans hw242_1)⟩ (fun hHeld => ?_); refine with_tabW laws_eqTermS.tab6 laws_eqTermS.bits6 (fun HT_ HW_ => ?_)
                generalize wr.drew = w9 at HB hx241_0 hx241_1 hx242_0 hx242_1 hHeld ⊢
                refine pure_ (i := 0) (N := some 17) (v := ?_) (a' := ?_) #[true, false, false, false, false, false, false, false, false, false] rfl rfl (any_of HT_.out (by kernel_rfl)) (fun _ _ _ h => h) (Or.inl ⟨by rfl, ?_⟩) ?_ ?_
                rotate_left
                · intro w'
                  go_simp
                  with_reducible rfl
                rotate_left
                · simp only [Act.put, List.setIfInBounds_toArray, List.set_cons_zero, List.set_cons_succ, i64_w, i32_w]
                  rfl
                refine pure_ (i := 1) (N := some 18) (v := ?_) (a' := ?_) #[true, true, false, false, false, false, false, false, false, false] rfl rfl (any_of HT_.out (by kernel_rfl)) (fun _ _ _ h => h) (Or.inl ⟨by rfl, ?_⟩) ?_ ?_
                rotate_left
                · intro w'
                  go_simp
                  with_reducible rfl
                rotate_left
                · simp only [Act.put, List.setIfInBounds_toArray, List.set_cons_zero, List.set_cons_succ, i64_w, i32_w]
                  rfl
                refine pure_ (i := 2) (N := some 19) (v := ?_) (a' := ?_) #[true, true, true, false, false, false, false, false, false, false] rfl rfl (any_of HT_.out (by kernel_rfl)) (fun _ _ _ h => h) (Or.inl ⟨by rfl, ?_⟩) ?_ ?_
                rotate_left
                · intro w'
                  go_simp
                  with_reducible rfl
                rotate_left
                · simp only [Act.put, List.setIfInBounds_toArray, List.set_cons_zero, List.set_cons_succ, i64_w, i32_w]
                  rfl
                refine pure_ (i := 4) (N := some 21) (v := ?_) (a' := ?_) #[true, true, true, false, true, false, false, false, false, false] rfl rfl (any_of HT_.out (by kernel_rfl)) (fun _ _ _ h => h) (Or.inl ⟨by rfl, ?_⟩) ?_ ?_
                rotate_left
                · intro w'
                  go_simp
                  with_reducible rfl
                rotate_left
                · simp only [Act.put, List.setIfInBounds_toArray, List.set_cons_zero, List.set_cons_succ, i64_w, i32_w]
                  rfl
                refine pure_ (i := 5) (N := some 22) (v := ?_) (a' := ?_) #[true, true, true, false, true, true, false, false, false, false] rfl rfl (any_of HT_.out (by kernel_rfl)) (fun _ _ _ h => h) (Or.inl ⟨by rfl, ?_⟩) ?_ ?_
                rotate_left
                · intro w'
                  go_simp
                  with_reducible rfl
                rotate_left
                · simp only [Act.put, List.setIfInBounds_toArray, List.set_cons_zero, List.set_cons_succ, i64_w, i32_w]
                  rfl
                refine pure_ (i := 6) (N := some 23) (v := ?_) (a' := ?_) #[true, true, true, false, true, true, true, false, false, false] rfl rfl (any_of HT_.out (by kernel_rfl)) (fun _ _ _ h => h) (Or.inl ⟨by rfl, ?_⟩) ?_ ?_
                rotate_left
                · intro w'
                  go_simp
                  with_reducible rfl
                rotate_left
                · simp only [Act.put, List.setIfInBounds_toArray, List.set_cons_zero, List.set_cons_succ, i64_w, i32_w]
                  rfl
                refine take_ (i := 3) (N := some 20) (v := ?_) (a' := ?_) #[true, true, true, true, true, true, true, false, false, false] rfl rfl (take_ofW HT_.out HW_.out (by kernel_rfl)) (fun _ _ _ h => h) (Or.inl ⟨by rfl, ?_⟩) hHeld ?_ ?_
                rotate_left
                · rintro w' ⟨s0, s1, s2, s3⟩
                  go_simp
                  with_reducible rfl
                rotate_left
                · simp only [Act.put, List.setIfInBounds_toArray, List.set_cons_zero, List.set_cons_succ, i64_w, i32_w]
                  rfl
                refine take_ (i := 7) (N := some 24) (v := ?_) (a' := ?_) #[true, true, true, true, true, true, true, true, false, false] rfl rfl (take_ofW HT_.out HW_.out (by kernel_rfl)) (fun _ _ _ h => h) (Or.inl ⟨by rfl, ?_⟩) hHeld ?_ ?_
                rotate_left
                · rintro w' ⟨s0, s1, s2, s3⟩
                  go_simp
                  with_reducible rfl
                rotate_left
                · simp only [Act.put, List.setIfInBounds_toArray, List.set_cons_zero, List.set_cons_succ, i64_w, i32_w]
                  rfl
                refine one_ (i := 8) (N := some 25) #[true, true, true, true, true, true, true, true, true, false] rfl rfl (one_of HT_.out (by kernel_rfl)) (by decide) (fun K hK => ?_)
                refine goes_ Tryd.func40 (by kernel_rfl) rfl #[.agg #[.string ((rd_T38 l0 x5_1).f0), .string ((rd_T38 l0 x5_1).f1)], .agg #[.string ((rd_T38 l1 x5_1).f0), .string ((rd_T38 l1 x5_1).f1)]] (by rfl) rfl rfl (by (try simp only [List.map_toArray, List.map_cons, List.map_nil]); first | done | rfl | (simp only [List.length_drop, List.length_take]; rfl)) ?_
                with_reducible refine (laws_eqTerm.calls ((rd_T38 l0 x5_1).f0) ((rd_T38 l0 x5_1).f1) ((rd_T38 l1 x5_1).f0) ((rd_T38 l1 x5_1).f1) true _ A7.out).mono ?_
                rintro e w10 ⟨rfl, hb⟩
                refine ⟨_, rfl, ?_⟩
                have n0_ := Aside0.mk (below_step (by repeat (first | (with_reducible first | exact HB.out | apply below_alloc | apply pw_below_drewN | apply below_drew1) | exact HB.out)) hb)
                clear HB
                have HB := n0_
                clear n0_
                (try clear hb)
                (try clear hb2)
                (try clear hk)
                (try clear hi)
                refine hK.out _ _ ⟨((HB.out.cell (World.block_lt_of_cell? w _ hw241_0)).trans hw241_0), ((HB.out.cell (World.block_lt_of_cell? w _ hw241_1)).trans hw241_1), ((HB.out.cell (World.block_lt_of_cell? w _ hw242_0)).trans hw242_0), ((HB.out.cell (World.block_lt_of_cell? w _ hw242_1)).trans hw242_1)⟩ (fun hHeld => ?_)
                clear hK K
                refine norm_ (a' := ?_) ?_ ?_
                rotate_left
                · show Act.put _ (some 25) _ = _
                  simp only [Act.put, List.setIfInBounds_toArray, List.set_cons_zero, List.set_cons_succ, i64_w, i32_w]
                  rfl
                refine pure_ (i := 9) (N := some 26) (v := ?_) (a' := ?_) #[true, true, true, true, true, true, true, true, true, true] rfl rfl (any_of HT_.out (by kernel_rfl)) (fun _ _ _ h => h) (Or.inl ⟨by rfl, ?_⟩) ?_ ?_
                rotate_left
                · intro w'
                  go_simp
                  with_reducible rfl
                rotate_left
                · simp only [Act.put, List.setIfInBounds_toArray, List.set_cons_zero, List.set_cons_succ, i64_w, i32_w]
                  rfl
                refine done_ (done_of HT_.out (by kernel_rfl)) ?_
                try go_wp2
                go_roundg k1
                case measure => have := HK1.out; omega
                case rel => exact ⟨(wrap64 (x5_1 + 1)), (by first | rfl | (simp; done) | (simp [*]; done)), H', ⟨by have := HK1.out; omega⟩, ⟨by repeat (first | (with_reducible first | exact HB.out | apply below_alloc | apply pw_below_drewN | apply below_drew1) | exact HB.out)⟩⟩
              · replace c8 := Bool.eq_false_iff.mpr c8
                subst c8
                have H1 : (some false) = some r := by rw [if_neg (show ¬ (false = true) by decide)] at H; exact H
                clear H
                have H := H1
                clear H1
                obtain rfl := Option.some.inj H
                try go_wp2
                have n0_ := Aside0.mk (below_drew1 HB.out)
                clear HB
                have HB := n0_
                clear n0_
                have p241 : 0 ≤ (x5_1 : Int) := of_decide_eq_true (by first | (with_reducible assumption) | assumption)
                have q241 : x5_1 < (l0.length : Int) := of_decide_eq_true (by first | (with_reducible assumption) | assumption)
                obtain ⟨ad241, e241, hx241_0, hx241_1⟩ := at_T38 HR0.out x5_1 p241 q241
                have hw241_1 := hx241_1
                have hw241_0 := hx241_0
                cases e241
                replace hx241_0 := (HB.out.cell (World.block_lt_of_cell? w _ hx241_0)).trans hx241_0
                replace hx241_1 := (HB.out.cell (World.block_lt_of_cell? w _ hx241_1)).trans hx241_1
                replace p241 := eq_true p241
                replace q241 := eq_true q241
                have p242 : 0 ≤ (x5_1 : Int) := of_decide_eq_true (by first | (with_reducible assumption) | assumption)
                have q242 : x5_1 < (l1.length : Int) := of_decide_eq_true (by first | (with_reducible assumption) | assumption)
                obtain ⟨ad242, e242, hx242_0, hx242_1⟩ := at_T38 HR1.out x5_1 p242 q242
                have hw242_1 := hx242_1
                have hw242_0 := hx242_0
                cases e242
                replace hx242_0 := (HB.out.cell (World.block_lt_of_cell? w _ hx242_0)).trans hx242_0
                replace hx242_1 := (HB.out.cell (World.block_lt_of_cell? w _ hx242_1)).trans hx242_1
                replace p242 := eq_true p242
                replace q242 := eq_true q242
                refine start_ (n := 10) (S := fun w' => w'.cell? (ad241.add ((x5_1).toNat * 2)) = some (.string ((rd_T38 l0 x5_1).f0)) ∧ w'.cell? ⟨(ad241.add ((x5_1).toNat * 2)).block, (ad241.add ((x5_1).toNat * 2)).off + 1, none⟩ = some (.string ((rd_T38 l0 x5_1).f1)) ∧ w'.cell? (ad242.add ((x5_1).toNat * 2)) = some (.string ((rd_T38 l1 x5_1).f0)) ∧ w'.cell? ⟨(ad242.add ((x5_1).toNat * 2)).block, (ad242.add ((x5_1).toNat * 2)).off + 1, none⟩ = some (.string ((rd_T38 l1 x5_1).f1))) (ds := []) #[false, false, false, false, false, false, false, false, false, false] (by kernel_rfl) rfl rfl ⟨((HB.out.cell (World.block_lt_of_cell? w _ hw241_0)).trans hw241_0), ((HB.out.cell (World.block_lt_of_cell? w _ hw241_1)).trans hw241_1), ((HB.out.cell (World.block_lt_of_cell? w _ hw242_0)).trans hw242_0), ((HB.out.cell (World.block_lt_of_cell? w _ hw242_1)).trans hw242_1)⟩ (fun hHeld => ?_); refine with_tabW laws_eqTermS.tab6 laws_eqTermS.bits6 (fun HT_ HW_ => ?_)
                generalize wr.drew = w11 at HB hx241_0 hx241_1 hx242_0 hx242_1 hHeld ⊢
                refine pure_ (i := 0) (N := some 17) (v := ?_) (a' := ?_) #[true, false, false, false, false, false, false, false, false, false] rfl rfl (any_of HT_.out (by kernel_rfl)) (fun _ _ _ h => h) (Or.inl ⟨by rfl, ?_⟩) ?_ ?_
                rotate_left
                · intro w'
                  go_simp
                  with_reducible rfl
                rotate_left
                · simp only [Act.put, List.setIfInBounds_toArray, List.set_cons_zero, List.set_cons_succ, i64_w, i32_w]
                  rfl
                refine pure_ (i := 1) (N := some 18) (v := ?_) (a' := ?_) #[true, true, false, false, false, false, false, false, false, false] rfl rfl (any_of HT_.out (by kernel_rfl)) (fun _ _ _ h => h) (Or.inl ⟨by rfl, ?_⟩) ?_ ?_
                rotate_left
                · intro w'
                  go_simp
                  with_reducible rfl
                rotate_left
                · simp only [Act.put, List.setIfInBounds_toArray, List.set_cons_zero, List.set_cons_succ, i64_w, i32_w]
                  rfl
                refine pure_ (i := 2) (N := some 19) (v := ?_) (a' := ?_) #[true, true, true, false, false, false, false, false, false, false] rfl rfl (any_of HT_.out (by kernel_rfl)) (fun _ _ _ h => h) (Or.inl ⟨by rfl, ?_⟩) ?_ ?_
                rotate_left
                · intro w'
                  go_simp
                  with_reducible rfl
                rotate_left
                · simp only [Act.put, List.setIfInBounds_toArray, List.set_cons_zero, List.set_cons_succ, i64_w, i32_w]
                  rfl
                refine pure_ (i := 4) (N := some 21) (v := ?_) (a' := ?_) #[true, true, true, false, true, false, false, false, false, false] rfl rfl (any_of HT_.out (by kernel_rfl)) (fun _ _ _ h => h) (Or.inl ⟨by rfl, ?_⟩) ?_ ?_
                rotate_left
                · intro w'
                  go_simp
                  with_reducible rfl
                rotate_left
                · simp only [Act.put, List.setIfInBounds_toArray, List.set_cons_zero, List.set_cons_succ, i64_w, i32_w]
                  rfl
                refine pure_ (i := 5) (N := some 22) (v := ?_) (a' := ?_) #[true, true, true, false, true, true, false, false, false, false] rfl rfl (any_of HT_.out (by kernel_rfl)) (fun _ _ _ h => h) (Or.inl ⟨by rfl, ?_⟩) ?_ ?_
                rotate_left
                · intro w'
                  go_simp
                  with_reducible rfl
                rotate_left
                · simp only [Act.put, List.setIfInBounds_toArray, List.set_cons_zero, List.set_cons_succ, i64_w, i32_w]
                  rfl
                refine pure_ (i := 6) (N := some 23) (v := ?_) (a' := ?_) #[true, true, true, false, true, true, true, false, false, false] rfl rfl (any_of HT_.out (by kernel_rfl)) (fun _ _ _ h => h) (Or.inl ⟨by rfl, ?_⟩) ?_ ?_
                rotate_left
                · intro w'
                  go_simp
                  with_reducible rfl
                rotate_left
                · simp only [Act.put, List.setIfInBounds_toArray, List.set_cons_zero, List.set_cons_succ, i64_w, i32_w]
                  rfl
                refine take_ (i := 3) (N := some 20) (v := ?_) (a' := ?_) #[true, true, true, true, true, true, true, false, false, false] rfl rfl (take_ofW HT_.out HW_.out (by kernel_rfl)) (fun _ _ _ h => h) (Or.inl ⟨by rfl, ?_⟩) hHeld ?_ ?_
                rotate_left
                · rintro w' ⟨s0, s1, s2, s3⟩
                  go_simp
                  with_reducible rfl
                rotate_left
                · simp only [Act.put, List.setIfInBounds_toArray, List.set_cons_zero, List.set_cons_succ, i64_w, i32_w]
                  rfl
                refine take_ (i := 7) (N := some 24) (v := ?_) (a' := ?_) #[true, true, true, true, true, true, true, true, false, false] rfl rfl (take_ofW HT_.out HW_.out (by kernel_rfl)) (fun _ _ _ h => h) (Or.inl ⟨by rfl, ?_⟩) hHeld ?_ ?_
                rotate_left
                · rintro w' ⟨s0, s1, s2, s3⟩
                  go_simp
                  with_reducible rfl
                rotate_left
                · simp only [Act.put, List.setIfInBounds_toArray, List.set_cons_zero, List.set_cons_succ, i64_w, i32_w]
                  rfl
                refine one_ (i := 8) (N := some 25) #[true, true, true, true, true, true, true, true, true, false] rfl rfl (one_of HT_.out (by kernel_rfl)) (by decide) (fun K hK => ?_)
                refine goes_ Tryd.func40 (by kernel_rfl) rfl #[.agg #[.string ((rd_T38 l0 x5_1).f0), .string ((rd_T38 l0 x5_1).f1)], .agg #[.string ((rd_T38 l1 x5_1).f0), .string ((rd_T38 l1 x5_1).f1)]] (by rfl) rfl rfl (by (try simp only [List.map_toArray, List.map_cons, List.map_nil]); first | done | rfl | (simp only [List.length_drop, List.length_take]; rfl)) ?_
                with_reducible refine (laws_eqTerm.calls ((rd_T38 l0 x5_1).f0) ((rd_T38 l0 x5_1).f1) ((rd_T38 l1 x5_1).f0) ((rd_T38 l1 x5_1).f1) false _ A7.out).mono ?_
                rintro e w12 ⟨rfl, hb⟩
                refine ⟨_, rfl, ?_⟩
                have n0_ := Aside0.mk (below_step (by repeat (first | (with_reducible first | exact HB.out | apply below_alloc | apply pw_below_drewN | apply below_drew1) | exact HB.out)) hb)
                clear HB
                have HB := n0_
                clear n0_
                (try clear hb)
                (try clear hb2)
                (try clear hk)
                (try clear hi)
                refine hK.out _ _ ⟨((HB.out.cell (World.block_lt_of_cell? w _ hw241_0)).trans hw241_0), ((HB.out.cell (World.block_lt_of_cell? w _ hw241_1)).trans hw241_1), ((HB.out.cell (World.block_lt_of_cell? w _ hw242_0)).trans hw242_0), ((HB.out.cell (World.block_lt_of_cell? w _ hw242_1)).trans hw242_1)⟩ (fun hHeld => ?_)
                clear hK K
                refine norm_ (a' := ?_) ?_ ?_
                rotate_left
                · show Act.put _ (some 25) _ = _
                  simp only [Act.put, List.setIfInBounds_toArray, List.set_cons_zero, List.set_cons_succ, i64_w, i32_w]
                  rfl
                refine pure_ (i := 9) (N := some 26) (v := ?_) (a' := ?_) #[true, true, true, true, true, true, true, true, true, true] rfl rfl (any_of HT_.out (by kernel_rfl)) (fun _ _ _ h => h) (Or.inl ⟨by rfl, ?_⟩) ?_ ?_
                rotate_left
                · intro w'
                  go_simp
                  with_reducible rfl
                rotate_left
                · simp only [Act.put, List.setIfInBounds_toArray, List.set_cons_zero, List.set_cons_succ, i64_w, i32_w]
                  rfl
                refine done_ (done_of HT_.out (by kernel_rfl)) ?_
                try go_wp2
                go_ret
                exact ⟨by first | rfl | (simp [errW_none, errW_some] <;> rfl) | (simp [*, errW_none, errW_some] <;> rfl), by repeat (first | (with_reducible first | exact HB.out | apply below_alloc | apply pw_below_drewN | apply below_drew1) | exact HB.out)⟩
            · rw [if_neg c6] at H
              exact absurd H (by simp)
          · rw [if_neg c5] at H
            exact absurd H (by simp)
        · rw [if_neg c4] at H
          have c4b0 : decide (x5_1 < (l0.length : Int)) = false := decide_eq_false c4
          clear c4
          obtain rfl := Option.some.inj H
          go_wp2
          go_ret
          exact ⟨by first | rfl | (simp [errW_none, errW_some] <;> rfl) | (simp [*, errW_none, errW_some] <;> rfl), by repeat (first | (with_reducible first | exact HB.out | apply below_alloc | apply pw_below_drewN | apply below_drew1) | exact HB.out)⟩
  · rw [if_neg c3] at H
    have c3b0 : ((l0.length : Int) == (l1.length : Int)) = false := beq_eq_false_iff_ne.mpr c3
    have c3b1 : ((l0.length : Int) != (l1.length : Int)) = true := bne_iff_ne.mpr c3
    have c3b2 : (l0.length == l1.length) = false := by first | simpa using c3 | (simp at c3 ⊢; omega)
    obtain rfl := Option.some.inj H
    go_enter Tryd.func25, Tryd.ntmps25
    go_wp2
    go_ret
    exact ⟨by first | rfl | (simp [errW_none, errW_some] <;> rfl) | (simp [*, errW_none, errW_some] <;> rfl), by repeat (first | (with_reducible first | exact HB.out | apply below_alloc | apply pw_below_drewN | apply below_drew1) | exact HB.out)⟩
end Go.Proofs.YthfohhpjanoimaaDoor.P
end

section
namespace Go.Proofs.YthfohhpjanoimaaDoor.P
open Go.RowKit Go.Proofs.YthfohhpjanoimaaDoorW.PrintWords Go.Proofs.YthfohhpjanoimaaDoorW.PrintLast Go.Proofs.YthfohhpjanoimaaDoorW.PrintMore Go.Proofs.YthfohhpjanoimaaDoorM
attribute [local go_sem] max2_int min2_int max_two min_two max_three min_three max_four min_four   -- for this text's walks alone
set_option linter.unusedVariables false
set_option linter.unusedSimpArgs false
def laws_eqTermSS.l0 : Nat → List (List (S38)) → List (List (S38)) → Int → Option (Bool)
  | 0, _, _, _ => none
  | k + 1, x0, x1, x5 => if x5 < (x0.length : Int) then (if 0 ≤ x5 then (if x5 < (x1.length : Int) then ((laws_eqTermS.f k (rd_L4 x0 x5) (rd_L4 x1 x5)).bind fun t246 => (if t246 = true then (laws_eqTermSS.l0 k x0 x1 (wrap64 (x5 + 1))) else (some false))) else (none)) else (none)) else (some true)
def laws_eqTermSS.f (k : Nat) (l0 : List (List (S38))) (l1 : List (List (S38))) : Option (Bool) := if (l0.length : Int) = (l1.length : Int) then (laws_eqTermSS.l0 k l0 l1 0) else (some false)
def laws_eqTermSS.T6 : Bool × List (List Nat × List Nat) := (true, [([], []), ([], []), ([0, 1], [0, 1]), ([2], [2]), ([], []), ([], []), ([4, 5], [4, 5]), ([6], [6]), ([3, 7], [3, 7]), ([8], [8])])
def laws_eqTermSS.B6 : List Nat := [0, 0, 3, 7, 0, 0, 48, 112, 255, 511]
theorem laws_eqTermSS.tab6 : rtab .any (opsOf Tryd.f8 6) = laws_eqTermSS.T6 := by kernel_rfl
theorem laws_eqTermSS.bits6 : waitsOk laws_eqTermSS.T6.2 laws_eqTermSS.B6 = true := by kernel_rfl
set_option maxHeartbeats 8000000 in
set_option maxRecDepth 100000 in
theorem laws_eqTermSS.calls (k : Nat) (A0 : Option Addr) (c0 : Nat) (l0 : List (List (S38))) (A1 : Option Addr) (c1 : Nat) (l1 : List (List (S38))) (r : Bool) (w : World) (hr0 : Kd.C (Kd.slice 38 k38) w A0 l0.length l0) (hc0 : l0.length ≤ c0) (hr1 : Kd.C (Kd.slice 38 k38) w A1 l1.length l1) (hc1 : l1.length ≤ c1) (h : laws_eqTermSS.f k l0 l1 = some r) :
    Calls Tryd.prog 8 #[.slice A0 l0.length c0, .slice A1 l1.length c1] w fun e w' => e = .returned (.bool r) ∧ Below w.heap.size w w' := by
  have HR0 := Aside0.mk hr0
  have HC0 := Aside0.mk hc0
  clear hr0 hc0
  have HR1 := Aside0.mk hr1
  have HC1 := Aside0.mk hc1
  clear hr1 hc1
  have HB := Aside0.mk (Below.refl w.heap.size w)
  have H : (if (l0.length : Int) = (l1.length : Int) then (laws_eqTermSS.l0 k l0 l1 0) else (some false)) = some r := h
  clear h
  by_cases c3 : (l0.length : Int) = (l1.length : Int)
  · rw [if_pos c3] at H
    have c3b0 : ((l0.length : Int) == (l1.length : Int)) = true := beq_iff_eq.mpr c3
    have c3b1 : ((l0.length : Int) != (l1.length : Int)) = false := bne_eq_false_iff_eq.mpr c3
    have c3b2 : (l0.length == l1.length) = true := by first | simpa using c3 | (simp at c3 ⊢; omega)
    clear c3
    have H' := Aside0.mk H
    clear H
    go_enter Tryd.func8, Tryd.ntmps8
    go_wp2
    go_loopg [5] k (fun kq v5 w' => ∃ (x5_1 : Int), v5 = .int .i64 x5_1 ∧ Aside0 (laws_eqTermSS.l0 kq l0 l1 x5_1 = some r) ∧ Aside0 (kq ≤ k) ∧ Aside0 (Below w.heap.size w w'))
    case atStart => exact ⟨(0), (by first | rfl | (simp; done) | (simp [*]; done)), H', ⟨Nat.le_refl _⟩, ⟨by repeat (first | (with_reducible first | exact HB.out | apply below_alloc | apply pw_below_drewN | apply below_drew1) | exact HB.out)⟩⟩
    case round =>
      clear H'
      try clear c1
      try clear p2
      try clear c3
      try clear c3b0
      try clear c3b1
      try clear c3b2
      obtain ⟨x5_1, rfl, HA, HK1, HB⟩ := hrel
      cases gk with
      | zero => exact absurd HA.out (by simp [laws_eqTermSS.l0])
      | succ k1 =>
        have H := HA.out
        clear HA
        simp only [laws_eqTermSS.l0] at H
        by_cases c4 : x5_1 < (l0.length : Int)
        · rw [if_pos c4] at H
          have c4b0 : decide (x5_1 < (l0.length : Int)) = true := decide_eq_true c4
          clear c4
          by_cases c5 : 0 ≤ x5_1
          · rw [if_pos c5] at H
            have c5b0 : decide (0 ≤ x5_1) = true := decide_eq_true c5
            clear c5
            by_cases c6 : x5_1 < (l1.length : Int)
            · rw [if_pos c6] at H
              have c6b0 : decide (x5_1 < (l1.length : Int)) = true := decide_eq_true c6
              clear c6
              replace H := Option.bind_eq_some_iff.mp H
              obtain ⟨t246, A70, H⟩ := H
              replace H : (if t246 = true then (laws_eqTermSS.l0 k1 l0 l1 (wrap64 (x5_1 + 1))) else (some false)) = some r := H
              have A7 := Aside0.mk A70
              clear A70
              by_cases c8 : t246 = true
              · subst c8
                have H1 : (laws_eqTermSS.l0 k1 l0 l1 (wrap64 (x5_1 + 1))) = some r := by rw [if_pos rfl] at H; exact H
                clear H
                have H := H1
                clear H1
                have H' := Aside0.mk H
                clear H
                try go_wp2
                have n0_ := Aside0.mk (below_drew1 HB.out)
                clear HB
                have HB := n0_
                clear n0_
                have p244 : 0 ≤ (x5_1 : Int) := of_decide_eq_true (by first | (with_reducible assumption) | assumption)
                have q244 : x5_1 < (l0.length : Int) := of_decide_eq_true (by first | (with_reducible assumption) | assumption)
                obtain ⟨ad244, A244_0, c244_0, e244, hx244_0, hl244_0, hi244_0⟩ := at_L4 HR0.out x5_1 p244 q244
                have hw244_0 := hx244_0
                cases e244
                replace hx244_0 := (HB.out.cell (World.block_lt_of_cell? w _ hx244_0)).trans hx244_0
                have HR244_0 := Aside0.mk hi244_0
                have HC244_0 := Aside0.mk hl244_0
                clear hi244_0 hl244_0
                replace p244 := eq_true p244
                replace q244 := eq_true q244
                have p245 : 0 ≤ (x5_1 : Int) := of_decide_eq_true (by first | (with_reducible assumption) | assumption)
                have q245 : x5_1 < (l1.length : Int) := of_decide_eq_true (by first | (with_reducible assumption) | assumption)
                obtain ⟨ad245, A245_0, c245_0, e245, hx245_0, hl245_0, hi245_0⟩ := at_L4 HR1.out x5_1 p245 q245
                have hw245_0 := hx245_0
                cases e245
                replace hx245_0 := (HB.out.cell (World.block_lt_of_cell? w _ hx245_0)).trans hx245_0
                have HR245_0 := Aside0.mk hi245_0
                have HC245_0 := Aside0.mk hl245_0
                clear hi245_0 hl245_0
                replace p245 := eq_true p245
                replace q245 := eq_true q245
                refine start_ (n := 10) (S := fun w' => w'.cell? (ad244.add (x5_1).toNat) = some (.slice A244_0 (rd_L4 l0 x5_1).length c244_0) ∧ w'.cell? (ad245.add (x5_1).toNat) = some (.slice A245_0 (rd_L4 l1 x5_1).length c245_0)) (ds := []) #[false, false, false, false, false, false, false, false, false, false] (by kernel_rfl) rfl rfl ⟨((HB.out.cell (World.block_lt_of_cell? w _ hw244_0)).trans hw244_0), ((HB.out.cell (World.block_lt_of_cell? w _ hw245_0)).trans hw245_0)⟩ (fun hHeld => ?_); refine with_tabW laws_eqTermSS.tab6 laws_eqTermSS.bits6 (fun HT_ HW_ => ?_)
                generalize wr.drew = w9 at HB HR244_0 HR245_0 hx244_0 hx245_0 hHeld ⊢
                refine pure_ (i := 0) (N := some 17) (v := ?_) (a' := ?_) #[true, false, false, false, false, false, false, false, false, false] rfl rfl (any_of HT_.out (by kernel_rfl)) (fun _ _ _ h => h) (Or.inl ⟨by rfl, ?_⟩) ?_ ?_
                rotate_left
                · intro w'
                  go_simp
                  with_reducible rfl
                rotate_left
                · simp only [Act.put, List.setIfInBounds_toArray, List.set_cons_zero, List.set_cons_succ, i64_w, i32_w]
                  rfl
                refine pure_ (i := 1) (N := some 18) (v := ?_) (a' := ?_) #[true, true, false, false, false, false, false, false, false, false] rfl rfl (any_of HT_.out (by kernel_rfl)) (fun _ _ _ h => h) (Or.inl ⟨by rfl, ?_⟩) ?_ ?_
                rotate_left
                · intro w'
                  go_simp
                  with_reducible rfl
                rotate_left
                · simp only [Act.put, List.setIfInBounds_toArray, List.set_cons_zero, List.set_cons_succ, i64_w, i32_w]
                  rfl
                refine pure_ (i := 2) (N := some 19) (v := ?_) (a' := ?_) #[true, true, true, false, false, false, false, false, false, false] rfl rfl (any_of HT_.out (by kernel_rfl)) (fun _ _ _ h => h) (Or.inl ⟨by rfl, ?_⟩) ?_ ?_
                rotate_left
                · intro w'
                  go_simp
                  with_reducible rfl
                rotate_left
                · simp only [Act.put, List.setIfInBounds_toArray, List.set_cons_zero, List.set_cons_succ, i64_w, i32_w]
                  rfl
                refine pure_ (i := 4) (N := some 21) (v := ?_) (a' := ?_) #[true, true, true, false, true, false, false, false, false, false] rfl rfl (any_of HT_.out (by kernel_rfl)) (fun _ _ _ h => h) (Or.inl ⟨by rfl, ?_⟩) ?_ ?_
                rotate_left
                · intro w'
                  go_simp
                  with_reducible rfl
                rotate_left
                · simp only [Act.put, List.setIfInBounds_toArray, List.set_cons_zero, List.set_cons_succ, i64_w, i32_w]
                  rfl
                refine pure_ (i := 5) (N := some 22) (v := ?_) (a' := ?_) #[true, true, true, false, true, true, false, false, false, false] rfl rfl (any_of HT_.out (by kernel_rfl)) (fun _ _ _ h => h) (Or.inl ⟨by rfl, ?_⟩) ?_ ?_
                rotate_left
                · intro w'
                  go_simp
                  with_reducible rfl
                rotate_left
                · simp only [Act.put, List.setIfInBounds_toArray, List.set_cons_zero, List.set_cons_succ, i64_w, i32_w]
                  rfl
                refine pure_ (i := 6) (N := some 23) (v := ?_) (a' := ?_) #[true, true, true, false, true, true, true, false, false, false] rfl rfl (any_of HT_.out (by kernel_rfl)) (fun _ _ _ h => h) (Or.inl ⟨by rfl, ?_⟩) ?_ ?_
                rotate_left
                · intro w'
                  go_simp
                  with_reducible rfl
                rotate_left
                · simp only [Act.put, List.setIfInBounds_toArray, List.set_cons_zero, List.set_cons_succ, i64_w, i32_w]
                  rfl
                refine take_ (i := 3) (N := some 20) (v := ?_) (a' := ?_) #[true, true, true, true, true, true, true, false, false, false] rfl rfl (take_ofW HT_.out HW_.out (by kernel_rfl)) (fun _ _ _ h => h) (Or.inl ⟨by rfl, ?_⟩) hHeld ?_ ?_
                rotate_left
                · rintro w' ⟨s0, s1⟩
                  go_simp
                  with_reducible rfl
                rotate_left
                · simp only [Act.put, List.setIfInBounds_toArray, List.set_cons_zero, List.set_cons_succ, i64_w, i32_w]
                  rfl
                refine take_ (i := 7) (N := some 24) (v := ?_) (a' := ?_) #[true, true, true, true, true, true, true, true, false, false] rfl rfl (take_ofW HT_.out HW_.out (by kernel_rfl)) (fun _ _ _ h => h) (Or.inl ⟨by rfl, ?_⟩) hHeld ?_ ?_
                rotate_left
                · rintro w' ⟨s0, s1⟩
                  go_simp
                  with_reducible rfl
                rotate_left
                · simp only [Act.put, List.setIfInBounds_toArray, List.set_cons_zero, List.set_cons_succ, i64_w, i32_w]
                  rfl
                refine one_ (i := 8) (N := some 25) #[true, true, true, true, true, true, true, true, true, false] rfl rfl (one_of HT_.out (by kernel_rfl)) (by decide) (fun K hK => ?_)
                refine goes_ Tryd.func25 (by kernel_rfl) rfl #[.slice A244_0 (rd_L4 l0 x5_1).length c244_0, .slice A245_0 (rd_L4 l1 x5_1).length c245_0] (by rfl) rfl rfl (by (try simp only [List.map_toArray, List.map_cons, List.map_nil]); first | done | rfl | (simp only [List.length_drop, List.length_take]; rfl)) ?_
                with_reducible refine (laws_eqTermS.calls k1 _ _ (rd_L4 l0 x5_1) _ _ (rd_L4 l1 x5_1) true _ ?side1 ?side2 ?side3 ?side4 A7.out).mono ?_
                (case side1 => repeat (first | exact (Kd.C_below HR244_0.out HB.out) | (with_reducible refine Kd.C_alloc ?_ _) | (with_reducible refine Kd.C_drewN ?_ _) | (with_reducible refine Kd.C_drew ?_)))
                (case side2 => exact HC244_0.out)
                (case side3 => repeat (first | exact (Kd.C_below HR245_0.out HB.out) | (with_reducible refine Kd.C_alloc ?_ _) | (with_reducible refine Kd.C_drewN ?_ _) | (with_reducible refine Kd.C_drew ?_)))
                (case side4 => exact HC245_0.out)
                rintro e w10 ⟨rfl, hb⟩
                refine ⟨_, rfl, ?_⟩
                have n0_ := Aside0.mk (below_step (by repeat (first | (with_reducible first | exact HB.out | apply below_alloc | apply pw_below_drewN | apply below_drew1) | exact HB.out)) hb)
                clear HB
                have HB := n0_
                clear n0_
                (try clear hb)
                (try clear hb2)
                (try clear hk)
                (try clear hi)
                refine hK.out _ _ ⟨((HB.out.cell (World.block_lt_of_cell? w _ hw244_0)).trans hw244_0), ((HB.out.cell (World.block_lt_of_cell? w _ hw245_0)).trans hw245_0)⟩ (fun hHeld => ?_)
                clear hK K
                refine norm_ (a' := ?_) ?_ ?_
                rotate_left
                · show Act.put _ (some 25) _ = _
                  simp only [Act.put, List.setIfInBounds_toArray, List.set_cons_zero, List.set_cons_succ, i64_w, i32_w]
                  rfl
                refine pure_ (i := 9) (N := some 26) (v := ?_) (a' := ?_) #[true, true, true, true, true, true, true, true, true, true] rfl rfl (any_of HT_.out (by kernel_rfl)) (fun _ _ _ h => h) (Or.inl ⟨by rfl, ?_⟩) ?_ ?_
                rotate_left
                · intro w'
                  go_simp
                  with_reducible rfl
                rotate_left
                · simp only [Act.put, List.setIfInBounds_toArray, List.set_cons_zero, List.set_cons_succ, i64_w, i32_w]
                  rfl
                refine done_ (done_of HT_.out (by kernel_rfl)) ?_
                try go_wp2
                go_roundg k1
                case measure => have := HK1.out; omega
                case rel => exact ⟨(wrap64 (x5_1 + 1)), (by first | rfl | (simp; done) | (simp [*]; done)), H', ⟨by have := HK1.out; omega⟩, ⟨by repeat (first | (with_reducible first | exact HB.out | apply below_alloc | apply pw_below_drewN | apply below_drew1) | exact HB.out)⟩⟩
              · replace c8 := Bool.eq_false_iff.mpr c8
                subst c8
                have H1 : (some false) = some r := by rw [if_neg (show ¬ (false = true) by decide)] at H; exact H
                clear H
                have H := H1
                clear H1
                obtain rfl := Option.some.inj H
                try go_wp2
                have n0_ := Aside0.mk (below_drew1 HB.out)
                clear HB
                have HB := n0_
                clear n0_
                have p244 : 0 ≤ (x5_1 : Int) := of_decide_eq_true (by first | (with_reducible assumption) | assumption)
                have q244 : x5_1 < (l0.length : Int) := of_decide_eq_true (by first | (with_reducible assumption) | assumption)
                obtain ⟨ad244, A244_0, c244_0, e244, hx244_0, hl244_0, hi244_0⟩ := at_L4 HR0.out x5_1 p244 q244
                have hw244_0 := hx244_0
                cases e244
                replace hx244_0 := (HB.out.cell (World.block_lt_of_cell? w _ hx244_0)).trans hx244_0
                have HR244_0 := Aside0.mk hi244_0
                have HC244_0 := Aside0.mk hl244_0
                clear hi244_0 hl244_0
                replace p244 := eq_true p244
                replace q244 := eq_true q244
                have p245 : 0 ≤ (x5_1 : Int) := of_decide_eq_true (by first | (with_reducible assumption) | assumption)
                have q245 : x5_1 < (l1.length : Int) := of_decide_eq_true (by first | (with_reducible assumption) | assumption)
                obtain ⟨ad245, A245_0, c245_0, e245, hx245_0, hl245_0, hi245_0⟩ := at_L4 HR1.out x5_1 p245 q245
                have hw245_0 := hx245_0
                cases e245
                replace hx245_0 := (HB.out.cell (World.block_lt_of_cell? w _ hx245_0)).trans hx245_0
                have HR245_0 := Aside0.mk hi245_0
                have HC245_0 := Aside0.mk hl245_0
                clear hi245_0 hl245_0
                replace p245 := eq_true p245
                replace q245 := eq_true q245
                refine start_ (n := 10) (S := fun w' => w'.cell? (ad244.add (x5_1).toNat) = some (.slice A244_0 (rd_L4 l0 x5_1).length c244_0) ∧ w'.cell? (ad245.add (x5_1).toNat) = some (.slice A245_0 (rd_L4 l1 x5_1).length c245_0)) (ds := []) #[false, false, false, false, false, false, false, false, false, false] (by kernel_rfl) rfl rfl ⟨((HB.out.cell (World.block_lt_of_cell? w _ hw244_0)).trans hw244_0), ((HB.out.cell (World.block_lt_of_cell? w _ hw245_0)).trans hw245_0)⟩ (fun hHeld => ?_); refine with_tabW laws_eqTermSS.tab6 laws_eqTermSS.bits6 (fun HT_ HW_ => ?_)
                generalize wr.drew = w11 at HB HR244_0 HR245_0 hx244_0 hx245_0 hHeld ⊢
                refine pure_ (i := 0) (N := some 17) (v := ?_) (a' := ?_) #[true, false, false, false, false, false, false, false, false, false] rfl rfl (any_of HT_.out (by kernel_rfl)) (fun _ _ _ h => h) (Or.inl ⟨by rfl, ?_⟩) ?_ ?_
                rotate_left
                · intro w'
                  go_simp
                  with_reducible rfl
                rotate_left
                · simp only [Act.put, List.setIfInBounds_toArray, List.set_cons_zero, List.set_cons_succ, i64_w, i32_w]
                  rfl
                refine pure_ (i := 1) (N := some 18) (v := ?_) (a' := ?_) #[true, true, false, false, false, false, false, false, false, false] rfl rfl (any_of HT_.out (by kernel_rfl)) (fun _ _ _ h => h) (Or.inl ⟨by rfl, ?_⟩) ?_ ?_
                rotate_left
                · intro w'
                  go_simp
                  with_reducible rfl
                rotate_left
                · simp only [Act.put, List.setIfInBounds_toArray, List.set_cons_zero, List.set_cons_succ, i64_w, i32_w]
                  rfl
                refine pure_ (i := 2) (N := some 19) (v := ?_) (a' := ?_) #[true, true, true, false, false, false, false, false, false, false] rfl rfl (any_of HT_.out (by kernel_rfl)) (fun _ _ _ h => h) (Or.inl ⟨by rfl, ?_⟩) ?_ ?_
                rotate_left
                · intro w'
                  go_simp
                  with_reducible rfl
                rotate_left
                · simp only [Act.put, List.setIfInBounds_toArray, List.set_cons_zero, List.set_cons_succ, i64_w, i32_w]
                  rfl
                refine pure_ (i := 4) (N := some 21) (v := ?_) (a' := ?_) #[true, true, true, false, true, false, false, false, false, false] rfl rfl (any_of HT_.out (by kernel_rfl)) (fun _ _ _ h => h) (Or.inl ⟨by rfl, ?_⟩) ?_ ?_
                rotate_left
                · intro w'
                  go_simp
                  with_reducible rfl
                rotate_left
                · simp only [Act.put, List.setIfInBounds_toArray, List.set_cons_zero, List.set_cons_succ, i64_w, i32_w]
                  rfl
                refine pure_ (i := 5) (N := some 22) (v := ?_) (a' := ?_) #[true, true, true, false, true, true, false, false, false, false] rfl rfl (any_of HT_.out (by kernel_rfl)) (fun _ _ _ h => h) (Or.inl ⟨by rfl, ?_⟩) ?_ ?_
                rotate_left
                · intro w'
                  go_simp
                  with_reducible rfl
                rotate_left
                · simp only [Act.put, List.setIfInBounds_toArray, List.set_cons_zero, List.set_cons_succ, i64_w, i32_w]
                  rfl
                refine pure_ (i := 6) (N := some 23) (v := ?_) (a' := ?_) #[true, true, true, false, true, true, true, false, false, false] rfl rfl (any_of HT_.out (by kernel_rfl)) (fun _ _ _ h => h) (Or.inl ⟨by rfl, ?_⟩) ?_ ?_
                rotate_left
                · intro w'
                  go_simp
                  with_reducible rfl
                rotate_left
                · simp only [Act.put, List.setIfInBounds_toArray, List.set_cons_zero, List.set_cons_succ, i64_w, i32_w]
                  rfl
                refine take_ (i := 3) (N := some 20) (v := ?_) (a' := ?_) #[true, true, true, true, true, true, true, false, false, false] rfl rfl (take_ofW HT_.out HW_.out (by kernel_rfl)) (fun _ _ _ h => h) (Or.inl ⟨by rfl, ?_⟩) hHeld ?_ ?_
                rotate_left
                · rintro w' ⟨s0, s1⟩
                  go_simp
                  with_reducible rfl
                rotate_left
                · simp only [Act.put, List.setIfInBounds_toArray, List.set_cons_zero, List.set_cons_succ, i64_w, i32_w]
                  rfl
                refine take_ (i := 7) (N := some 24) (v := ?_) (a' := ?_) #[true, true, true, true, true, true, true, true, false, false] rfl rfl (take_ofW HT_.out HW_.out (by kernel_rfl)) (fun _ _ _ h => h) (Or.inl ⟨by rfl, ?_⟩) hHeld ?_ ?_
                rotate_left
                · rintro w' ⟨s0, s1⟩
                  go_simp
                  with_reducible rfl
                rotate_left
                · simp only [Act.put, List.setIfInBounds_toArray, List.set_cons_zero, List.set_cons_succ, i64_w, i32_w]
                  rfl
                refine one_ (i := 8) (N := some 25) #[true, true, true, true, true, true, true, true, true, false] rfl rfl (one_of HT_.out (by kernel_rfl)) (by decide) (fun K hK => ?_)
                refine goes_ Tryd.func25 (by kernel_rfl) rfl #[.slice A244_0 (rd_L4 l0 x5_1).length c244_0, .slice A245_0 (rd_L4 l1 x5_1).length c245_0] (by rfl) rfl rfl (by (try simp only [List.map_toArray, List.map_cons, List.map_nil]); first | done | rfl | (simp only [List.length_drop, List.length_take]; rfl)) ?_
                with_reducible refine (laws_eqTermS.calls k1 _ _ (rd_L4 l0 x5_1) _ _ (rd_L4 l1 x5_1) false _ ?side1 ?side2 ?side3 ?side4 A7.out).mono ?_
                (case side1 => repeat (first | exact (Kd.C_below HR244_0.out HB.out) | (with_reducible refine Kd.C_alloc ?_ _) | (with_reducible refine Kd.C_drewN ?_ _) | (with_reducible refine Kd.C_drew ?_)))
                (case side2 => exact HC244_0.out)
                (case side3 => repeat (first | exact (Kd.C_below HR245_0.out HB.out) | (with_reducible refine Kd.C_alloc ?_ _) | (with_reducible refine Kd.C_drewN ?_ _) | (with_reducible refine Kd.C_drew ?_)))
                (case side4 => exact HC245_0.out)
                rintro e w12 ⟨rfl, hb⟩
                refine ⟨_, rfl, ?_⟩
                have n0_ := Aside0.mk (below_step (by repeat (first | (with_reducible first | exact HB.out | apply below_alloc | apply pw_below_drewN | apply below_drew1) | exact HB.out)) hb)
                clear HB
                have HB := n0_
                clear n0_
                (try clear hb)
                (try clear hb2)
                (try clear hk)
                (try clear hi)
                refine hK.out _ _ ⟨((HB.out.cell (World.block_lt_of_cell? w _ hw244_0)).trans hw244_0), ((HB.out.cell (World.block_lt_of_cell? w _ hw245_0)).trans hw245_0)⟩ (fun hHeld => ?_)
                clear hK K
                refine norm_ (a' := ?_) ?_ ?_
                rotate_left
                · show Act.put _ (some 25) _ = _
                  simp only [Act.put, List.setIfInBounds_toArray, List.set_cons_zero, List.set_cons_succ, i64_w, i32_w]
                  rfl
                refine pure_ (i := 9) (N := some 26) (v := ?_) (a' := ?_) #[true, true, true, true, true, true, true, true, true, true] rfl rfl (any_of HT_.out (by kernel_rfl)) (fun _ _ _ h => h) (Or.inl ⟨by rfl, ?_⟩) ?_ ?_
                rotate_left
                · intro w'
                  go_simp
                  with_reducible rfl
                rotate_left
                · simp only [Act.put, List.setIfInBounds_toArray, List.set_cons_zero, List.set_cons_succ, i64_w, i32_w]
                  rfl
                refine done_ (done_of HT_.out (by kernel_rfl)) ?_
                try go_wp2
                go_ret
                exact ⟨by first | rfl | (simp [errW_none, errW_some] <;> rfl) | (simp [*, errW_none, errW_some] <;> rfl), by repeat (first | (with_reducible first | exact HB.out | apply below_alloc | apply pw_below_drewN | apply below_drew1) | exact HB.out)⟩
            · rw [if_neg c6] at H
              exact absurd H (by simp)
          · rw [if_neg c5] at H
            exact absurd H (by simp)
        · rw [if_neg c4] at H
          have c4b0 : decide (x5_1 < (l0.length : Int)) = false := decide_eq_false c4
          (try (have c4b0' := c4b0; simp only [hl245_0] at c4b0'))
          clear c4
          obtain rfl := Option.some.inj H
          go_wp2
          go_ret
          exact ⟨by first | rfl | (simp [errW_none, errW_some] <;> rfl) | (simp [*, errW_none, errW_some] <;> rfl), by repeat (first | (with_reducible first | exact HB.out | apply below_alloc | apply pw_below_drewN | apply below_drew1) | exact HB.out)⟩
  · rw [if_neg c3] at H
    have c3b0 : ((l0.length : Int) == (l1.length : Int)) = false := beq_eq_false_iff_ne.mpr c3
    have c3b1 : ((l0.length : Int) != (l1.length : Int)) = true := bne_iff_ne.mpr c3
    have c3b2 : (l0.length == l1.length) = false := by first | simpa using c3 | (simp at c3 ⊢; omega)
    obtain rfl := Option.some.inj H
    go_enter Tryd.func8, Tryd.ntmps8
    go_wp2
    go_ret
    exact ⟨by first | rfl | (simp [errW_none, errW_some] <;> rfl) | (simp [*, errW_none, errW_some] <;> rfl), by repeat (first | (with_reducible first | exact HB.out | apply below_alloc | apply pw_below_drewN | apply below_drew1) | exact HB.out)⟩
end Go.Proofs.YthfohhpjanoimaaDoor.P
end

section
namespace Go.Proofs.YthfohhpjanoimaaDoor.P
open Go.RowKit Go.Proofs.YthfohhpjanoimaaDoorW.PrintWords Go.Proofs.YthfohhpjanoimaaDoorW.PrintLast Go.Proofs.YthfohhpjanoimaaDoorW.PrintMore Go.Proofs.YthfohhpjanoimaaDoorM
attribute [local go_sem] max2_int min2_int max_two min_two max_three min_three max_four min_four   -- for this text's walks alone
set_option linter.unusedVariables false
set_option linter.unusedSimpArgs false
theorem eqA67 (d : Nat) (w : World) (x0 y0 : Int) (x1 y1 : ByteArray) :
    (Op.equalIn (d + 2) 67 (.agg #[.int .i64 x0, .string x1]) (.agg #[.int .i64 y0, .string y1])).run Tryd.prog w = .ok (x0 == y0 && (x1.toList == y1.toList)) w := by
  refine eqA_of Tryd.underlying67 (by kernel_rfl) ?_
  refine eqf_cons (by rfl) (by go_simp; rfl) (by go_simp; rfl) (by go_simp) ?_
  exact eqf_last (by rfl) (by go_simp; rfl) (by go_simp; rfl) (by go_simp)
end Go.Proofs.YthfohhpjanoimaaDoor.P
end

section
namespace Go.Proofs.YthfohhpjanoimaaDoor.P
open Go.RowKit Go.Proofs.YthfohhpjanoimaaDoorW.PrintWords Go.Proofs.YthfohhpjanoimaaDoorW.PrintLast Go.Proofs.YthfohhpjanoimaaDoorW.PrintMore Go.Proofs.YthfohhpjanoimaaDoorM
attribute [local go_sem] max2_int min2_int max_two min_two max_three min_three max_four min_four   -- for this text's walks alone
set_option linter.unusedVariables false
set_option linter.unusedSimpArgs false
attribute [local go_sem high] eqA67
end Go.Proofs.YthfohhpjanoimaaDoor.P
end

section
namespace Go.Proofs.YthfohhpjanoimaaDoor.P
open Go.RowKit Go.Proofs.YthfohhpjanoimaaDoorW.PrintWords Go.Proofs.YthfohhpjanoimaaDoorW.PrintLast Go.Proofs.YthfohhpjanoimaaDoorW.PrintMore Go.Proofs.YthfohhpjanoimaaDoorM
attribute [local go_sem] max2_int min2_int max_two min_two max_three min_three max_four min_four   -- for this text's walks alone
set_option linter.unusedVariables false
set_option linter.unusedSimpArgs false
end Go.Proofs.YthfohhpjanoimaaDoor.P
end

section
namespace Go.Proofs.YthfohhpjanoimaaDoor.P
open Go.RowKit Go.Proofs.YthfohhpjanoimaaDoorW.PrintWords Go.Proofs.YthfohhpjanoimaaDoorW.PrintLast Go.Proofs.YthfohhpjanoimaaDoorW.PrintMore Go.Proofs.YthfohhpjanoimaaDoorM
attribute [local go_sem] max2_int min2_int max_two min_two max_three min_three max_four min_four   -- for this text's walks alone
set_option linter.unusedVariables false
set_option linter.unusedSimpArgs false
end Go.Proofs.YthfohhpjanoimaaDoor.P
end

section
namespace Go.Proofs.YthfohhpjanoimaaDoor.P
open Go.RowKit Go.Proofs.YthfohhpjanoimaaDoorW.PrintWords Go.Proofs.YthfohhpjanoimaaDoorW.PrintLast Go.Proofs.YthfohhpjanoimaaDoorW.PrintMore Go.Proofs.YthfohhpjanoimaaDoorM
attribute [local go_sem] max2_int min2_int max_two min_two max_three min_three max_four min_four   -- for this text's walks alone
set_option linter.unusedVariables false
set_option linter.unusedSimpArgs false
end Go.Proofs.YthfohhpjanoimaaDoor.P
end
