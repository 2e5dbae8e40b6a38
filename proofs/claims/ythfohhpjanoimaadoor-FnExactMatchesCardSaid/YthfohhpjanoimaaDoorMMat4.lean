/- Texts of Mat, put together by program. -/
import Derived.Test.YthfohhpjanoimaaDoorMMat3

section
namespace Go.Proofs.YthfohhpjanoimaaDoor.P
open Go.RowKit Go.Proofs.YthfohhpjanoimaaDoorW.PrintWords Go.Proofs.YthfohhpjanoimaaDoorW.PrintLast Go.Proofs.YthfohhpjanoimaaDoorW.PrintMore Go.Proofs.YthfohhpjanoimaaDoorM
attribute [local go_sem] max2_int min2_int max_two min_two max_three min_three max_four min_four   -- for this text's walks alone
set_option linter.unusedVariables false
set_option linter.unusedSimpArgs false
mutual
def impl_parts.j0 : Nat → ByteArray → Bool → Option ((List (S67)) × Bool)
  | 0, _, _ => none
  | k + 1, x0, x23 => if x23 = true then (some (([] : List (S67)), false)) else (impl_parts.l0 k x0 ([] : List (S67)) 0)
def impl_parts.l0 : Nat → ByteArray → List (S67) → Int → Option ((List (S67)) × Bool)
  | 0, _, _, _ => none
  | k + 1, x0, x4, x5 => if x5 < (x0.size : Int) then (if 0 ≤ x5 then ((impl_digit.f (bt x0 x5)).bind fun t180 => (if t180 = true then (impl_parts.l1 k x0 x4 x5 x5) else ((impl_letter.f (bt x0 x5)).bind fun t192 => (if t192 = true then (impl_parts.l2 k x0 x4 x5 x5) else (if (bt x0 x5) = 46 then (impl_parts.l0 k x0 x4 (wrap64 (x5 + 1))) else (if (bt x0 x5) = 45 then (impl_parts.l0 k x0 x4 (wrap64 (x5 + 1))) else (some (([] : List (S67)), false)))))))) else (none)) else (some (x4, true))
def impl_parts.l1 : Nat → ByteArray → List (S67) → Int → Int → Option ((List (S67)) × Bool)
  | 0, _, _, _, _ => none
  | k + 1, x0, x4, x5, x7 => if x7 < (x0.size : Int) then (if 0 ≤ x7 then ((impl_digit.f (bt x0 x7)).bind fun t181 => (if t181 = true then (impl_parts.l1 k x0 x4 x5 (wrap64 (x7 + 1))) else (if (wrap64 (x7 - x5)) > 15 then (some (([] : List (S67)), false)) else (if 0 ≤ x5 then (if x5 ≤ x7 then (if x7 ≤ (x0.size : Int) then ((strconv_ParseInt.f (x0.extract (x5 : Int).toNat (x7 : Int).toNat) 10 64).bind fun bt182 => (if x4.length < 5864062014805 then (impl_parts.l0 k x0 (x4 ++ [(⟨bt182.1, (⟨#[]⟩ : ByteArray)⟩ : S67)]) x7) else (none))) else (none)) else (none)) else (none))))) else (none)) else (if (wrap64 (x7 - x5)) > 15 then (some (([] : List (S67)), false)) else (if 0 ≤ x5 then (if x5 ≤ x7 then (if x7 ≤ (x0.size : Int) then ((strconv_ParseInt.f (x0.extract (x5 : Int).toNat (x7 : Int).toNat) 10 64).bind fun bt187 => (if x4.length < 5864062014805 then (impl_parts.l0 k x0 (x4 ++ [(⟨bt187.1, (⟨#[]⟩ : ByteArray)⟩ : S67)]) x7) else (none))) else (none)) else (none)) else (none)))
def impl_parts.l2 : Nat → ByteArray → List (S67) → Int → Int → Option ((List (S67)) × Bool)
  | 0, _, _, _, _ => none
  | k + 1, x0, x4, x5, x7 => if x7 < (x0.size : Int) then (if 0 ≤ x7 then ((impl_letter.f (bt x0 x7)).bind fun t193 => (if t193 = true then (impl_parts.l2 k x0 x4 x5 (wrap64 (x7 + 1))) else (if 0 ≤ x5 then (if x5 ≤ x7 then (if x7 ≤ (x0.size : Int) then (if x4.length < 5864062014805 then (impl_parts.l0 k x0 (x4 ++ [(⟨0, x0.extract (x5 : Int).toNat (x7 : Int).toNat⟩ : S67)]) x7) else (none)) else (none)) else (none)) else (none)))) else (none)) else (if 0 ≤ x5 then (if x5 ≤ x7 then (if x7 ≤ (x0.size : Int) then (if x4.length < 5864062014805 then (impl_parts.l0 k x0 (x4 ++ [(⟨0, x0.extract (x5 : Int).toNat (x7 : Int).toNat⟩ : S67)]) x7) else (none)) else (none)) else (none)) else (none))
end
def impl_parts.f (k : Nat) (a0 : ByteArray) : Option ((List (S67)) × Bool) := if (a0.size : Int) < 1 then (impl_parts.j0 k a0 true) else (if (a0.size : Int) > 30 then (impl_parts.j0 k a0 true) else (if 0 < (a0.size : Int) then ((impl_digit.f (bt a0 0)).bind fun t179 => (impl_parts.j0 k a0 (!t179))) else (none)))
set_option maxHeartbeats 8000000 in
set_option maxRecDepth 100000 in
theorem impl_parts.calls (k : Nat) (a0 : ByteArray) (r1 : List (S67)) (r2 : Bool) (w : World) (h : impl_parts.f k a0 = some (r1, r2)) :
    Calls Tryd.prog 38 #[.string a0] w fun e w' => ∃ v0_ : Value, e = .returned (.tuple #[v0_, .bool r2]) ∧ Kd.R k67 67 w' w.heap.size (fun _ => True) v0_ r1 ∧ Below w.heap.size w w' := by
  have hu67 := Tryd.underlying67
  have HB := Aside0.mk (Below.refl w.heap.size w)
  have H : (if (a0.size : Int) < 1 then (impl_parts.j0 k a0 true) else (if (a0.size : Int) > 30 then (impl_parts.j0 k a0 true) else (if 0 < (a0.size : Int) then ((impl_digit.f (bt a0 0)).bind fun t179 => (impl_parts.j0 k a0 (!t179))) else (none)))) = some (r1, r2) := h
  clear h
  have HC2 := Aside0.mk H
  clear H
  go_enter Tryd.func38, Tryd.ntmps38
  go_upto_region 1 with (fail)
  go_cut [23] (fun v23 wc => ∃ (kq : Nat) (x23_1 : Bool), v23 = .bool x23_1 ∧ Aside0 (impl_parts.j0 kq a0 x23_1 = some (r1, r2)) ∧ Aside0 (kq ≤ k) ∧ Aside0 (Below w.heap.size w wc))
  case first =>
    have H := HC2.out
    clear HC2
    by_cases c3 : (a0.size : Int) < 1
    · rw [if_pos c3] at H
      have c3b0 : decide ((a0.size : Int) < 1) = true := decide_eq_true c3
      have c3b1 : decide (a0.size < 1) = true := decide_eq_true (by omega)
      clear c3
      (first | rw [c3b0] | (simp only [i64_w, i32_w]; rw [c3b0]) | skip)
      have H' := Aside0.mk H
      clear H
      go_wp2
      go_meet
      case rel => exact ⟨_, (true), (by first | rfl | (simp; done) | (simp [*]; done)), H', ⟨by first | omega | exact Nat.le_refl _⟩, ⟨by repeat (first | (with_reducible first | exact HB.out | apply below_alloc | apply pw_below_drewN | apply below_drew1) | exact HB.out)⟩⟩
    · rw [if_neg c3] at H
      have c3b0 : decide ((a0.size : Int) < 1) = false := decide_eq_false c3
      have c3b1 : decide (a0.size < 1) = false := decide_eq_false (by omega)
      clear c3
      (first | rw [c3b0] | (simp only [i64_w, i32_w]; rw [c3b0]) | skip)
      by_cases c4 : (a0.size : Int) > 30
      · rw [if_pos c4] at H
        have c4b0 : decide (30 < (a0.size : Int)) = true := decide_eq_true c4
        have c4b1 : decide (30 < a0.size) = true := decide_eq_true (by omega)
        clear c4
        have H' := Aside0.mk H
        clear H
        go_wp2
        go_meet
        case rel => exact ⟨_, (true), (by first | rfl | (simp; done) | (simp [*]; done)), H', ⟨by first | omega | exact Nat.le_refl _⟩, ⟨by repeat (first | (with_reducible first | exact HB.out | apply below_alloc | apply pw_below_drewN | apply below_drew1) | exact HB.out)⟩⟩
      · rw [if_neg c4] at H
        have c4b0 : decide (30 < (a0.size : Int)) = false := decide_eq_false c4
        have c4b1 : decide (30 < a0.size) = false := decide_eq_false (by omega)
        clear c4
        by_cases c5 : 0 < (a0.size : Int)
        · rw [if_pos c5] at H
          have c5b0 : decide (0 < (a0.size : Int)) = true := decide_eq_true c5
          have c5b1 : decide (0 < a0.size) = true := decide_eq_true (by omega)
          clear c5
          replace H := Option.bind_eq_some_iff.mp H
          obtain ⟨t179, A70, H⟩ := H
          replace H : (impl_parts.j0 k a0 (!t179)) = some (r1, r2) := H
          have A7 := Aside0.mk A70
          clear A70
          have H' := Aside0.mk H
          clear H
          have p6 : 0 ≤ (0 : Int) := (by omega)
          have q6 : 0 < a0.size := (by have : (0 : Int) < (a0.size : Int) := of_decide_eq_true (by first | (with_reducible assumption) | assumption); omega)
          have hx6 : ∀ h : 0 < a0.size, ((a0[0]'h).toNat : Int) = bt a0 0 := bt_at a0 0
          clear p6
          have qi6 : (0 < (a0.size : Int)) = True := eq_true (of_decide_eq_true (by first | (with_reducible assumption) | assumption))
          replace q6 := eq_true q6
          go_wp2_with (first | (go_at_call 55; (with_reducible refine (impl_digit.calls (bt a0 0) t179 _ A7.out).mono ?_); rintro e w' ⟨rfl, ⟨nd, rfl⟩⟩))
          go_meet
          case rel => exact ⟨_, (!t179), (by first | rfl | (simp; done) | (simp [*]; done)), H', ⟨by first | omega | exact Nat.le_refl _⟩, ⟨by repeat (first | (with_reducible first | exact HB.out | apply below_alloc | apply pw_below_drewN | apply below_drew1) | exact HB.out)⟩⟩
        · rw [if_neg c5] at H
          exact absurd H (by simp)
  case rest =>
    clear HC2
    try clear p2
    try clear c3
    try clear c3b0
    try clear c3b1
    try clear c4
    try clear c4b0
    try clear c4b1
    try clear c5
    try clear c5b0
    try clear c5b1
    try clear p6
    try clear q6
    try clear hx6
    try clear qi6
    try clear p6
    try clear q6
    obtain ⟨kq, x23_1, rfl, HA, HJ1, HB⟩ := hcut
    cases kq with
    | zero => exact absurd HA.out (by simp [impl_parts.j0])
    | succ kj1 =>
      have H := HA.out
      clear HA
      simp only [impl_parts.j0] at H
      by_cases c8 : x23_1 = true
      · subst c8
        have H1 : (some (([] : List (S67)), false)) = some (r1, r2) := by rw [if_pos rfl] at H; exact H
        clear H
        have H := H1
        clear H1
        simp only [Option.some.injEq, Prod.mk.injEq] at H
        obtain ⟨rfl, rfl⟩ := H
        go_wp2
        go_ret2
        exact ⟨_, by first | rfl | (simp [errW_none, errW_some] <;> rfl) | (simp [*, errW_none, errW_some] <;> rfl), by first | exact Kd.R_nil _ _ _ _ _ | exact Kd.N_nil _ _ _ _ _ | exact Kd.V_nil _ _ _ _ _ | exact Kd.Q_nil _ _ _ _ _ | exact Kd.S_nil _ _ _ _ _, by repeat (first | (with_reducible first | exact HB.out | apply below_alloc | apply pw_below_drewN | apply below_drew1) | exact HB.out)⟩
      · replace c8 := Bool.eq_false_iff.mpr c8
        subst c8
        have H1 : (impl_parts.l0 kj1 a0 ([] : List (S67)) 0) = some (r1, r2) := by rw [if_neg (show ¬ (false = true) by decide)] at H; exact H
        clear H
        have H := H1
        clear H1
        have H' := Aside0.mk H
        clear H
        go_wp2
        go_loopg [4, 5] kj1 (fun kq v4 v5 w' => ∃ (x4_2 : List (S67)) (x5_2 : Int), v5 = .int .i64 x5_2 ∧ Aside0 (impl_parts.l0 kq a0 x4_2 x5_2 = some (r1, r2)) ∧ Aside0 (kq ≤ kj1) ∧ Aside0 (Kd.R k67 67 w' w.heap.size (fun _ => True) v4 x4_2) ∧ Aside0 (Below w.heap.size w w'))
        case atStart => exact ⟨(([] : List (S67))), (0), (by first | rfl | (simp; done) | (simp [*]; done)), H', ⟨Nat.le_refl _⟩, ⟨by first | exact Kd.R_nil _ _ _ _ _ | exact Kd.N_nil _ _ _ _ _ | exact Kd.V_nil _ _ _ _ _ | exact Kd.Q_nil _ _ _ _ _ | exact Kd.S_nil _ _ _ _ _⟩, ⟨by repeat (first | (with_reducible first | exact HB.out | apply below_alloc | apply pw_below_drewN | apply below_drew1) | exact HB.out)⟩⟩
        case round =>
          clear H'
          try clear p2
          try clear c3
          try clear c3b0
          try clear c3b1
          try clear c4
          try clear c4b0
          try clear c4b1
          try clear c5
          try clear c5b0
          try clear c5b1
          try clear p6
          try clear q6
          try clear hx6
          try clear qi6
          try clear c8
          try clear p2
          try clear p6
          try clear q6
          obtain ⟨x4_2, x5_2, rfl, HA, HK2, HO_4, HB⟩ := hrel
          cases gk with
          | zero => exact absurd HA.out (by simp [impl_parts.l0])
          | succ k2 =>
            have H := HA.out
            clear HA
            simp only [impl_parts.l0] at H
            by_cases c9 : x5_2 < (a0.size : Int)
            · rw [if_pos c9] at H
              have c9b0 : decide (x5_2 < (a0.size : Int)) = true := decide_eq_true c9
              clear c9
              by_cases c10 : 0 ≤ x5_2
              · rw [if_pos c10] at H
                have c10b0 : decide (0 ≤ x5_2) = true := decide_eq_true c10
                clear c10
                replace H := Option.bind_eq_some_iff.mp H
                obtain ⟨t180, A120, H⟩ := H
                replace H : (if t180 = true then (impl_parts.l1 k2 a0 x4_2 x5_2 x5_2) else ((impl_letter.f (bt a0 x5_2)).bind fun t192 => (if t192 = true then (impl_parts.l2 k2 a0 x4_2 x5_2 x5_2) else (if (bt a0 x5_2) = 46 then (impl_parts.l0 k2 a0 x4_2 (wrap64 (x5_2 + 1))) else (if (bt a0 x5_2) = 45 then (impl_parts.l0 k2 a0 x4_2 (wrap64 (x5_2 + 1))) else (some (([] : List (S67)), false))))))) = some (r1, r2) := H
                have A12 := Aside0.mk A120
                clear A120
                by_cases c13 : t180 = true
                · subst c13
                  have H1 : (impl_parts.l1 k2 a0 x4_2 x5_2 x5_2) = some (r1, r2) := by rw [if_pos rfl] at H; exact H
                  clear H
                  have H := H1
                  clear H1
                  have H' := Aside0.mk H
                  clear H
                  have p11 : 0 ≤ (x5_2 : Int) := of_decide_eq_true (by first | (with_reducible assumption) | assumption)
                  have q11 : x5_2 < (a0.size : Int) := of_decide_eq_true (by first | (with_reducible assumption) | assumption)
                  have hx11 := bt_at a0 x5_2
                  replace p11 := eq_true p11
                  replace q11 := eq_true q11
                  go_wp2_with (first | ((with_reducible refine gate_callee (f := 55) rfl ?_); refine goesL_ (some 34) rfl rfl Tryd.func55 (by kernel_rfl) rfl #[.int .u8 (bt a0 x5_2)] rfl (by (try simp only [List.map_toArray, List.map_cons, List.map_nil]); first | done | rfl | (simp only [List.length_drop, List.length_take]; rfl)) ?_; (with_reducible refine (impl_digit.calls (bt a0 x5_2) true _ A12.out).mono ?_); rintro e w' ⟨rfl, ⟨nd, rfl⟩⟩; refine ⟨_, rfl, ?_⟩))
                  go_loopg [7] k2 (fun kq v7 w' => ∃ (x7_3 : Int), v7 = .int .i64 x7_3 ∧ Aside0 (impl_parts.l1 kq a0 x4_2 x5_2 x7_3 = some (r1, r2)) ∧ Aside0 (kq ≤ k2) ∧ Aside0 (Kd.R k67 67 w' w.heap.size (fun _ => True) u4 x4_2) ∧ Aside0 (Below w.heap.size w w'))
                  case atStart => exact ⟨(x5_2), (by first | rfl | (simp; done) | (simp [*]; done)), H', ⟨Nat.le_refl _⟩, ⟨by (with_reducible repeat (first | apply Kd.R_alloc | apply Kd.R_drewN | apply Kd.R_drew)); exact HO_4.out⟩, ⟨by repeat (first | (with_reducible first | exact HB.out | apply below_alloc | apply pw_below_drewN | apply below_drew1) | exact HB.out)⟩⟩
                  case round =>
                    clear H'
                    try clear c1
                    try clear p1
                    try clear q1
                    try clear hx1
                    try clear p2
                    try clear c3
                    try clear c3b0
                    try clear c3b1
                    try clear c4
                    try clear c4b0
                    try clear c4b1
                    try clear c5
                    try clear c5b0
                    try clear c5b1
                    try clear p6
                    try clear q6
                    try clear hx6
                    try clear qi6
                    try clear c8
                    try clear c9
                    try clear c9b0
                    try clear c10
                    try clear c10b0
                    try clear p11
                    try clear q11
                    try clear hx11
                    try clear c13
                    try clear p11
                    try clear p2
                    try clear p6
                    try clear q11
                    try clear q6
                    obtain ⟨x7_3, rfl, HA, HK3, HO_4, HB⟩ := hrel
                    cases gk with
                    | zero => exact absurd HA.out (by simp [impl_parts.l1])
                    | succ k3 =>
                      have H := HA.out
                      clear HA
                      simp only [impl_parts.l1] at H
                      by_cases c14 : x7_3 < (a0.size : Int)
                      · rw [if_pos c14] at H
                        have c14b0 : decide (x7_3 < (a0.size : Int)) = true := decide_eq_true c14
                        clear c14
                        by_cases c15 : 0 ≤ x7_3
                        · rw [if_pos c15] at H
                          have c15b0 : decide (0 ≤ x7_3) = true := decide_eq_true c15
                          clear c15
                          replace H := Option.bind_eq_some_iff.mp H
                          obtain ⟨t181, A170, H⟩ := H
                          replace H : (if t181 = true then (impl_parts.l1 k3 a0 x4_2 x5_2 (wrap64 (x7_3 + 1))) else (if (wrap64 (x7_3 - x5_2)) > 15 then (some (([] : List (S67)), false)) else (if 0 ≤ x5_2 then (if x5_2 ≤ x7_3 then (if x7_3 ≤ (a0.size : Int) then ((strconv_ParseInt.f (a0.extract (x5_2 : Int).toNat (x7_3 : Int).toNat) 10 64).bind fun bt182 => (if x4_2.length < 5864062014805 then (impl_parts.l0 k3 a0 (x4_2 ++ [(⟨bt182.1, (⟨#[]⟩ : ByteArray)⟩ : S67)]) x7_3) else (none))) else (none)) else (none)) else (none)))) = some (r1, r2) := H
                          have A17 := Aside0.mk A170
                          clear A170
                          by_cases c18 : t181 = true
                          · subst c18
                            have H1 : (impl_parts.l1 k3 a0 x4_2 x5_2 (wrap64 (x7_3 + 1))) = some (r1, r2) := by rw [if_pos rfl] at H; exact H
                            clear H
                            have H := H1
                            clear H1
                            have H' := Aside0.mk H
                            clear H
                            have p16 : 0 ≤ (x7_3 : Int) := of_decide_eq_true (by first | (with_reducible assumption) | assumption)
                            have q16 : x7_3 < (a0.size : Int) := of_decide_eq_true (by first | (with_reducible assumption) | assumption)
                            have hx16 := bt_at a0 x7_3
                            replace p16 := eq_true p16
                            replace q16 := eq_true q16
                            go_wp2_with (first | (go_at_call 55; (with_reducible refine (impl_digit.calls (bt a0 x7_3) true _ A17.out).mono ?_); rintro e w' ⟨rfl, ⟨nd, rfl⟩⟩))
                            go_roundg k3
                            case measure => have := HJ1.out; have := HK2.out; have := HK3.out; omega
                            case rel => exact ⟨(wrap64 (x7_3 + 1)), (by first | rfl | (simp; done) | (simp [*]; done)), H', ⟨by have := HJ1.out; have := HK2.out; have := HK3.out; omega⟩, ⟨by (with_reducible repeat (first | apply Kd.R_alloc | apply Kd.R_drewN | apply Kd.R_drew)); exact HO_4.out⟩, ⟨by repeat (first | (with_reducible first | exact HB.out | apply below_alloc | apply pw_below_drewN | apply below_drew1) | exact HB.out)⟩⟩
                          · replace c18 := Bool.eq_false_iff.mpr c18
                            subst c18
                            have H1 : (if (wrap64 (x7_3 - x5_2)) > 15 then (some (([] : List (S67)), false)) else (if 0 ≤ x5_2 then (if x5_2 ≤ x7_3 then (if x7_3 ≤ (a0.size : Int) then ((strconv_ParseInt.f (a0.extract (x5_2 : Int).toNat (x7_3 : Int).toNat) 10 64).bind fun bt182 => (if x4_2.length < 5864062014805 then (impl_parts.l0 k3 a0 (x4_2 ++ [(⟨bt182.1, (⟨#[]⟩ : ByteArray)⟩ : S67)]) x7_3) else (none))) else (none)) else (none)) else (none))) = some (r1, r2) := by rw [if_neg (show ¬ (false = true) by decide)] at H; exact H
                            clear H
                            have H := H1
                            clear H1
                            by_cases c19 : (wrap64 (x7_3 - x5_2)) > 15
                            · rw [if_pos c19] at H
                              have c19b0 : decide (15 < (wrap64 (x7_3 - x5_2))) = true := decide_eq_true c19
                              clear c19
                              simp only [Option.some.injEq, Prod.mk.injEq] at H
                              obtain ⟨rfl, rfl⟩ := H
                              have p16 : 0 ≤ (x7_3 : Int) := of_decide_eq_true (by first | (with_reducible assumption) | assumption)
                              have q16 : x7_3 < (a0.size : Int) := of_decide_eq_true (by first | (with_reducible assumption) | assumption)
                              have hx16 := bt_at a0 x7_3
                              replace p16 := eq_true p16
                              replace q16 := eq_true q16
                              go_wp2_with (first | (go_at_call 55; (with_reducible refine (impl_digit.calls (bt a0 x7_3) false _ A17.out).mono ?_); rintro e w' ⟨rfl, ⟨nd, rfl⟩⟩))
                              go_ret2
                              exact ⟨_, by first | rfl | (simp [errW_none, errW_some] <;> rfl) | (simp [*, errW_none, errW_some] <;> rfl), by first | exact Kd.R_nil _ _ _ _ _ | exact Kd.N_nil _ _ _ _ _ | exact Kd.V_nil _ _ _ _ _ | exact Kd.Q_nil _ _ _ _ _ | exact Kd.S_nil _ _ _ _ _, by repeat (first | (with_reducible first | exact HB.out | apply below_alloc | apply pw_below_drewN | apply below_drew1) | exact HB.out)⟩
                            · rw [if_neg c19] at H
                              have c19b0 : decide (15 < (wrap64 (x7_3 - x5_2))) = false := decide_eq_false c19
                              clear c19
                              by_cases c20 : 0 ≤ x5_2
                              · rw [if_pos c20] at H
                                have c20b0 := eq_true c20
                                have c20b1 : decide (0 ≤ x5_2) = true := decide_eq_true c20
                                clear c20
                                by_cases c21 : x5_2 ≤ x7_3
                                · rw [if_pos c21] at H
                                  have c21b0 := eq_true c21
                                  have c21b1 : decide (x5_2 ≤ x7_3) = true := decide_eq_true c21
                                  clear c21
                                  by_cases c22 : x7_3 ≤ (a0.size : Int)
                                  · rw [if_pos c22] at H
                                    have c22b0 := eq_true c22
                                    have c22b1 : decide (x7_3 ≤ (a0.size : Int)) = true := decide_eq_true c22
                                    clear c22
                                    replace H := Option.bind_eq_some_iff.mp H
                                    obtain ⟨⟨t182, t183⟩, A230, H⟩ := H
                                    replace H : (if x4_2.length < 5864062014805 then (impl_parts.l0 k3 a0 (x4_2 ++ [(⟨t182, (⟨#[]⟩ : ByteArray)⟩ : S67)]) x7_3) else (none)) = some (r1, r2) := H
                                    have A23 := Aside0.mk A230
                                    clear A230
                                    by_cases c24 : x4_2.length < 5864062014805
                                    · rw [if_pos c24] at H
                                      have LMc24 := Aside0.mk c24
                                      clear c24
                                      obtain ⟨y184, hy184⟩ : ∃ y_ : List (S67), y_ = (x4_2 ++ [(⟨t182, (⟨#[]⟩ : ByteArray)⟩ : S67)]) := ⟨_, rfl⟩
                                      replace H : (impl_parts.l0 k3 a0 y184 x7_3) = some (r1, r2) := by first | (rw [hy184]; with_reducible exact H) | (have H2_ := (Option.bind_some _ _).symm.trans H; rw [hy184]; with_reducible exact H2_) | (have H2_ := (Option.bind_some _ _).symm.trans H; with_reducible exact H2_) | with_reducible exact H | (rw [hy184]; exact H) | exact H
                                      have Ny184 := Aside0.mk hy184
                                      clear hy184
                                      have H' := Aside0.mk H
                                      clear H
                                      have p16 : 0 ≤ (x7_3 : Int) := of_decide_eq_true (by first | (with_reducible assumption) | assumption)
                                      have q16 : x7_3 < (a0.size : Int) := of_decide_eq_true (by first | (with_reducible assumption) | assumption)
                                      have hx16 := bt_at a0 x7_3
                                      replace p16 := eq_true p16
                                      replace q16 := eq_true q16
                                      go_wp2_with (first | (go_at_call 55; (with_reducible refine (impl_digit.calls (bt a0 x7_3) false _ A17.out).mono ?_); rintro e w' ⟨rfl, ⟨nd, rfl⟩⟩) | ((with_reducible refine gate_callee (f := 56) rfl ?_); refine goesL_ (some 56) rfl rfl Tryd.func56 (by kernel_rfl) rfl #[.string (a0.extract (x5_2 : Int).toNat (x7_3 : Int).toNat), .int .i64 10, .int .i64 64] rfl (by (try simp only [List.map_toArray, List.map_cons, List.map_nil]); first | done | rfl | (simp only [List.length_drop, List.length_take]; rfl)) ?_; (with_reducible refine (strconv_ParseInt.calls (a0.extract (x5_2 : Int).toNat (x7_3 : Int).toNat) 10 64 t182 t183 _ A23.out).mono ?_); rintro e w25 ⟨rfl, hb⟩; refine ⟨_, rfl, ?_⟩; have n0_ := Aside0.mk (Kd.R_below (by (with_reducible repeat (first | apply Kd.R_alloc | apply Kd.R_drewN | apply Kd.R_drew)); exact HO_4.out) hb); have n1_ := Aside0.mk (below_step (by repeat (first | (with_reducible first | exact HB.out | apply below_alloc | apply pw_below_drewN | apply below_drew1) | exact HB.out)) hb); clear HO_4; clear HB; have HO_4 := n0_; have HB := n1_; clear n0_ n1_; (try clear hb); (try clear hb2); (try clear hk); (try clear hi); (try simp only [errW_none, errW_some])) | ((with_reducible refine gate_builtin (b := .append) (xs := #[.tmp 59, .tmp 62]) rfl ?_); (try (refine gate_guard (by rfl) ?_; dsimp only)); at_builtin; refine Kd.R_append k67 (w0 := w) w.heap.size rfl (.tmp 59) (.tmp 62) 54 67 (.agg #[(.int .i64 0), (.string ⟨#[]⟩)]) 24 rfl Tryd.underlying54 info67 rfl (by decide) (by omega) u4 x4_2 (⟨t182, (⟨#[]⟩ : ByteArray)⟩ : S67) [.int .i64 t182, .string (⟨#[]⟩ : ByteArray)] (fun _ => True) (fun _ => False) rfl rfl ?aP (fun _ hk => hk.elim) ?aF ?aO ?aB ?aS ?aL ?_; (case aP => exact k67_mkM _ _ _ (⟨t182, (⟨#[]⟩ : ByteArray)⟩ : S67)); (case aB => exact (by repeat (first | (with_reducible first | exact HB.out | apply below_alloc | apply pw_below_drewN | apply below_drew1) | exact HB.out))); (case aF => exact (fun _ _ => trivial)); (case aO => exact (by (with_reducible repeat (first | apply Kd.R_alloc | apply Kd.R_drewN | apply Kd.R_drew)); exact HO_4.out)); (case aS => exact (below_size (by repeat (first | (with_reducible first | exact HB.out | apply below_alloc | apply pw_below_drewN | apply below_drew1) | exact HB.out)))); (case aL => have := LMc24.out; omega); intro v185 w26 ho hb hg hat; rw [← Ny184.out] at ho; have n0_ := Aside0.mk (hb); have n1_ := Aside0.mk (ho); clear HB; clear HO_4; have HB := n0_; have HO186 := n1_; clear n0_ n1_; clear ho hb hg hat))
                                      go_roundg k3
                                      case measure => have := HJ1.out; have := HK2.out; have := HK3.out; omega
                                      case rel => exact ⟨(y184), (x7_3), (by first | rfl | (simp; done) | (simp [*]; done)), H', ⟨by have := HJ1.out; have := HK2.out; have := HK3.out; omega⟩, ⟨by (with_reducible repeat (first | apply Kd.R_alloc | apply Kd.R_drewN | apply Kd.R_drew)); exact HO186.out⟩, ⟨by repeat (first | (with_reducible first | exact HB.out | apply below_alloc | apply pw_below_drewN | apply below_drew1) | exact HB.out)⟩⟩
                                    · rw [if_neg c24] at H
                                      exact absurd H (by simp)
                                  · rw [if_neg c22] at H
                                    exact absurd H (by simp)
                                · rw [if_neg c21] at H
                                  exact absurd H (by simp)
                              · rw [if_neg c20] at H
                                exact absurd H (by simp)
                        · rw [if_neg c15] at H
                          exact absurd H (by simp)
                      · rw [if_neg c14] at H
                        have c14b0 : decide (x7_3 < (a0.size : Int)) = false := decide_eq_false c14
                        clear c14
                        by_cases c27 : (wrap64 (x7_3 - x5_2)) > 15
                        · rw [if_pos c27] at H
                          have c27b0 : decide (15 < (wrap64 (x7_3 - x5_2))) = true := decide_eq_true c27
                          clear c27
                          simp only [Option.some.injEq, Prod.mk.injEq] at H
                          obtain ⟨rfl, rfl⟩ := H
                          go_wp2
                          go_ret2
                          exact ⟨_, by first | rfl | (simp [errW_none, errW_some] <;> rfl) | (simp [*, errW_none, errW_some] <;> rfl), by first | exact Kd.R_nil _ _ _ _ _ | exact Kd.N_nil _ _ _ _ _ | exact Kd.V_nil _ _ _ _ _ | exact Kd.Q_nil _ _ _ _ _ | exact Kd.S_nil _ _ _ _ _, by repeat (first | (with_reducible first | exact HB.out | apply below_alloc | apply pw_below_drewN | apply below_drew1) | exact HB.out)⟩
                        · rw [if_neg c27] at H
                          have c27b0 : decide (15 < (wrap64 (x7_3 - x5_2))) = false := decide_eq_false c27
                          clear c27
                          by_cases c28 : 0 ≤ x5_2
                          · rw [if_pos c28] at H
                            have c28b0 := eq_true c28
                            have c28b1 : decide (0 ≤ x5_2) = true := decide_eq_true c28
                            clear c28
                            by_cases c29 : x5_2 ≤ x7_3
                            · rw [if_pos c29] at H
                              have c29b0 := eq_true c29
                              have c29b1 : decide (x5_2 ≤ x7_3) = true := decide_eq_true c29
                              clear c29
                              by_cases c30 : x7_3 ≤ (a0.size : Int)
                              · rw [if_pos c30] at H
                                have c30b0 := eq_true c30
                                have c30b1 : decide (x7_3 ≤ (a0.size : Int)) = true := decide_eq_true c30
                                clear c30
                                replace H := Option.bind_eq_some_iff.mp H
                                obtain ⟨⟨t187, t188⟩, A310, H⟩ := H
                                replace H : (if x4_2.length < 5864062014805 then (impl_parts.l0 k3 a0 (x4_2 ++ [(⟨t187, (⟨#[]⟩ : ByteArray)⟩ : S67)]) x7_3) else (none)) = some (r1, r2) := H
                                have A31 := Aside0.mk A310
                                clear A310
                                by_cases c32 : x4_2.length < 5864062014805
                                · rw [if_pos c32] at H
                                  have LMc32 := Aside0.mk c32
                                  clear c32
                                  obtain ⟨y189, hy189⟩ : ∃ y_ : List (S67), y_ = (x4_2 ++ [(⟨t187, (⟨#[]⟩ : ByteArray)⟩ : S67)]) := ⟨_, rfl⟩
                                  replace H : (impl_parts.l0 k3 a0 y189 x7_3) = some (r1, r2) := by first | (rw [hy189]; with_reducible exact H) | (have H2_ := (Option.bind_some _ _).symm.trans H; rw [hy189]; with_reducible exact H2_) | (have H2_ := (Option.bind_some _ _).symm.trans H; with_reducible exact H2_) | with_reducible exact H | (rw [hy189]; exact H) | exact H
                                  have Ny189 := Aside0.mk hy189
                                  clear hy189
                                  have H' := Aside0.mk H
                                  clear H
                                  go_wp2_with (first | ((with_reducible refine gate_callee (f := 56) rfl ?_); refine goesL_ (some 56) rfl rfl Tryd.func56 (by kernel_rfl) rfl #[.string (a0.extract (x5_2 : Int).toNat (x7_3 : Int).toNat), .int .i64 10, .int .i64 64] rfl (by (try simp only [List.map_toArray, List.map_cons, List.map_nil]); first | done | rfl | (simp only [List.length_drop, List.length_take]; rfl)) ?_; (with_reducible refine (strconv_ParseInt.calls (a0.extract (x5_2 : Int).toNat (x7_3 : Int).toNat) 10 64 t187 t188 _ A31.out).mono ?_); rintro e w33 ⟨rfl, hb⟩; refine ⟨_, rfl, ?_⟩; have n0_ := Aside0.mk (Kd.R_below (by (with_reducible repeat (first | apply Kd.R_alloc | apply Kd.R_drewN | apply Kd.R_drew)); exact HO_4.out) hb); have n1_ := Aside0.mk (below_step (by repeat (first | (with_reducible first | exact HB.out | apply below_alloc | apply pw_below_drewN | apply below_drew1) | exact HB.out)) hb); clear HO_4; clear HB; have HO_4 := n0_; have HB := n1_; clear n0_ n1_; (try clear hb); (try clear hb2); (try clear hk); (try clear hi); (try simp only [errW_none, errW_some])) | ((with_reducible refine gate_builtin (b := .append) (xs := #[.tmp 59, .tmp 62]) rfl ?_); (try (refine gate_guard (by rfl) ?_; dsimp only)); at_builtin; refine Kd.R_append k67 (w0 := w) w.heap.size rfl (.tmp 59) (.tmp 62) 54 67 (.agg #[(.int .i64 0), (.string ⟨#[]⟩)]) 24 rfl Tryd.underlying54 info67 rfl (by decide) (by omega) u4 x4_2 (⟨t187, (⟨#[]⟩ : ByteArray)⟩ : S67) [.int .i64 t187, .string (⟨#[]⟩ : ByteArray)] (fun _ => True) (fun _ => False) rfl rfl ?aP (fun _ hk => hk.elim) ?aF ?aO ?aB ?aS ?aL ?_; (case aP => exact k67_mkM _ _ _ (⟨t187, (⟨#[]⟩ : ByteArray)⟩ : S67)); (case aB => exact (by repeat (first | (with_reducible first | exact HB.out | apply below_alloc | apply pw_below_drewN | apply below_drew1) | exact HB.out))); (case aF => exact (fun _ _ => trivial)); (case aO => exact (by (with_reducible repeat (first | apply Kd.R_alloc | apply Kd.R_drewN | apply Kd.R_drew)); exact HO_4.out)); (case aS => exact (below_size (by repeat (first | (with_reducible first | exact HB.out | apply below_alloc | apply pw_below_drewN | apply below_drew1) | exact HB.out)))); (case aL => have := LMc32.out; omega); intro v190 w34 ho hb hg hat; rw [← Ny189.out] at ho; have n0_ := Aside0.mk (hb); have n1_ := Aside0.mk (ho); clear HB; clear HO_4; have HB := n0_; have HO191 := n1_; clear n0_ n1_; clear ho hb hg hat))
                                  go_roundg k3
                                  case measure => have := HJ1.out; have := HK2.out; have := HK3.out; omega
                                  case rel => exact ⟨(y189), (x7_3), (by first | rfl | (simp; done) | (simp [*]; done)), H', ⟨by have := HJ1.out; have := HK2.out; have := HK3.out; omega⟩, ⟨by (with_reducible repeat (first | apply Kd.R_alloc | apply Kd.R_drewN | apply Kd.R_drew)); exact HO191.out⟩, ⟨by repeat (first | (with_reducible first | exact HB.out | apply below_alloc | apply pw_below_drewN | apply below_drew1) | exact HB.out)⟩⟩
                                · rw [if_neg c32] at H
                                  exact absurd H (by simp)
                              · rw [if_neg c30] at H
                                exact absurd H (by simp)
                            · rw [if_neg c29] at H
                              exact absurd H (by simp)
                          · rw [if_neg c28] at H
                            exact absurd H (by simp)
                · replace c13 := Bool.eq_false_iff.mpr c13
                  subst c13
                  have H1 : ((impl_letter.f (bt a0 x5_2)).bind fun t192 => (if t192 = true then (impl_parts.l2 k2 a0 x4_2 x5_2 x5_2) else (if (bt a0 x5_2) = 46 then (impl_parts.l0 k2 a0 x4_2 (wrap64 (x5_2 + 1))) else (if (bt a0 x5_2) = 45 then (impl_parts.l0 k2 a0 x4_2 (wrap64 (x5_2 + 1))) else (some (([] : List (S67)), false)))))) = some (r1, r2) := by rw [if_neg (show ¬ (false = true) by decide)] at H; exact H
                  clear H
                  have H := H1
                  clear H1
                  replace H := Option.bind_eq_some_iff.mp H
                  obtain ⟨t192, A350, H⟩ := H
                  replace H : (if t192 = true then (impl_parts.l2 k2 a0 x4_2 x5_2 x5_2) else (if (bt a0 x5_2) = 46 then (impl_parts.l0 k2 a0 x4_2 (wrap64 (x5_2 + 1))) else (if (bt a0 x5_2) = 45 then (impl_parts.l0 k2 a0 x4_2 (wrap64 (x5_2 + 1))) else (some (([] : List (S67)), false))))) = some (r1, r2) := H
                  have A35 := Aside0.mk A350
                  clear A350
                  by_cases c36 : t192 = true
                  · subst c36
                    have H1 : (impl_parts.l2 k2 a0 x4_2 x5_2 x5_2) = some (r1, r2) := by rw [if_pos rfl] at H; exact H
                    clear H
                    have H := H1
                    clear H1
                    have H' := Aside0.mk H
                    clear H
                    have p11 : 0 ≤ (x5_2 : Int) := of_decide_eq_true (by first | (with_reducible assumption) | assumption)
                    have q11 : x5_2 < (a0.size : Int) := of_decide_eq_true (by first | (with_reducible assumption) | assumption)
                    have hx11 := bt_at a0 x5_2
                    replace p11 := eq_true p11
                    replace q11 := eq_true q11
                    go_wp2_with (first | ((with_reducible refine gate_callee (f := 55) rfl ?_); refine goesL_ (some 34) rfl rfl Tryd.func55 (by kernel_rfl) rfl #[.int .u8 (bt a0 x5_2)] rfl (by (try simp only [List.map_toArray, List.map_cons, List.map_nil]); first | done | rfl | (simp only [List.length_drop, List.length_take]; rfl)) ?_; (with_reducible refine (impl_digit.calls (bt a0 x5_2) false _ A12.out).mono ?_); rintro e w' ⟨rfl, ⟨nd, rfl⟩⟩; refine ⟨_, rfl, ?_⟩) | ((with_reducible refine gate_callee (f := 57) rfl ?_); refine goesL_ (some 66) rfl rfl Tryd.func57 (by kernel_rfl) rfl #[.int .u8 (bt a0 x5_2)] rfl (by (try simp only [List.map_toArray, List.map_cons, List.map_nil]); first | done | rfl | (simp only [List.length_drop, List.length_take]; rfl)) ?_; (with_reducible refine (impl_letter.calls (bt a0 x5_2) true _ A35.out).mono ?_); rintro e w' ⟨rfl, ⟨nd, rfl⟩⟩; refine ⟨_, rfl, ?_⟩))
                    go_loopg [7] k2 (fun kq v7 w' => ∃ (x7_3 : Int), v7 = .int .i64 x7_3 ∧ Aside0 (impl_parts.l2 kq a0 x4_2 x5_2 x7_3 = some (r1, r2)) ∧ Aside0 (kq ≤ k2) ∧ Aside0 (Kd.R k67 67 w' w.heap.size (fun _ => True) u4 x4_2) ∧ Aside0 (Below w.heap.size w w'))
                    case atStart => exact ⟨(x5_2), (by first | rfl | (simp; done) | (simp [*]; done)), H', ⟨Nat.le_refl _⟩, ⟨by (with_reducible repeat (first | apply Kd.R_alloc | apply Kd.R_drewN | apply Kd.R_drew)); exact HO_4.out⟩, ⟨by repeat (first | (with_reducible first | exact HB.out | apply below_alloc | apply pw_below_drewN | apply below_drew1) | exact HB.out)⟩⟩
                    case round =>
                      clear H'
                      try clear c1
                      try clear p1
                      try clear q1
                      try clear hx1
                      try clear c2
                      try clear p2
                      try clear c3
                      try clear c3b0
                      try clear c3b1
                      try clear c4
                      try clear c4b0
                      try clear c4b1
                      try clear c5
                      try clear c5b0
                      try clear c5b1
                      try clear p6
                      try clear q6
                      try clear hx6
                      try clear qi6
                      try clear c8
                      try clear c9
                      try clear c9b0
                      try clear c10
                      try clear c10b0
                      try clear p11
                      try clear q11
                      try clear hx11
                      try clear c13
                      try clear c14
                      try clear c14b0
                      try clear c15
                      try clear c15b0
                      try clear p16
                      try clear q16
                      try clear hx16
                      try clear c18
                      try clear c19
                      try clear c19b0
                      try clear c20
                      try clear c20b0
                      try clear c20b1
                      try clear c21
                      try clear c21b0
                      try clear c21b1
                      try clear c22
                      try clear c22b0
                      try clear c22b1
                      try clear c24
                      try clear c27
                      try clear c27b0
                      try clear c28
                      try clear c28b0
                      try clear c28b1
                      try clear c29
                      try clear c29b0
                      try clear c29b1
                      try clear c30
                      try clear c30b0
                      try clear c30b1
                      try clear c32
                      try clear c36
                      try clear p1
                      try clear p11
                      try clear p16
                      try clear p2
                      try clear p6
                      try clear q1
                      try clear q11
                      try clear q16
                      try clear q6
                      obtain ⟨x7_3, rfl, HA, HK3, HO_4, HB⟩ := hrel
                      cases gk with
                      | zero => exact absurd HA.out (by simp [impl_parts.l2])
                      | succ k3 =>
                        have H := HA.out
                        clear HA
                        simp only [impl_parts.l2] at H
                        by_cases c37 : x7_3 < (a0.size : Int)
                        · rw [if_pos c37] at H
                          have c37b0 : decide (x7_3 < (a0.size : Int)) = true := decide_eq_true c37
                          clear c37
                          by_cases c38 : 0 ≤ x7_3
                          · rw [if_pos c38] at H
                            have c38b0 : decide (0 ≤ x7_3) = true := decide_eq_true c38
                            clear c38
                            replace H := Option.bind_eq_some_iff.mp H
                            obtain ⟨t193, A400, H⟩ := H
                            replace H : (if t193 = true then (impl_parts.l2 k3 a0 x4_2 x5_2 (wrap64 (x7_3 + 1))) else (if 0 ≤ x5_2 then (if x5_2 ≤ x7_3 then (if x7_3 ≤ (a0.size : Int) then (if x4_2.length < 5864062014805 then (impl_parts.l0 k3 a0 (x4_2 ++ [(⟨0, a0.extract (x5_2 : Int).toNat (x7_3 : Int).toNat⟩ : S67)]) x7_3) else (none)) else (none)) else (none)) else (none))) = some (r1, r2) := H
                            have A40 := Aside0.mk A400
                            clear A400
                            by_cases c41 : t193 = true
                            · subst c41
                              have H1 : (impl_parts.l2 k3 a0 x4_2 x5_2 (wrap64 (x7_3 + 1))) = some (r1, r2) := by rw [if_pos rfl] at H; exact H
                              clear H
                              have H := H1
                              clear H1
                              have H' := Aside0.mk H
                              clear H
                              have p39 : 0 ≤ (x7_3 : Int) := of_decide_eq_true (by first | (with_reducible assumption) | assumption)
                              have q39 : x7_3 < (a0.size : Int) := of_decide_eq_true (by first | (with_reducible assumption) | assumption)
                              have hx39 := bt_at a0 x7_3
                              replace p39 := eq_true p39
                              replace q39 := eq_true q39
                              go_wp2_with (first | (go_at_call 57; (with_reducible refine (impl_letter.calls (bt a0 x7_3) true _ A40.out).mono ?_); rintro e w' ⟨rfl, ⟨nd, rfl⟩⟩))
                              go_roundg k3
                              case measure => have := HJ1.out; have := HK2.out; have := HK3.out; omega
                              case rel => exact ⟨(wrap64 (x7_3 + 1)), (by first | rfl | (simp; done) | (simp [*]; done)), H', ⟨by have := HJ1.out; have := HK2.out; have := HK3.out; omega⟩, ⟨by (with_reducible repeat (first | apply Kd.R_alloc | apply Kd.R_drewN | apply Kd.R_drew)); exact HO_4.out⟩, ⟨by repeat (first | (with_reducible first | exact HB.out | apply below_alloc | apply pw_below_drewN | apply below_drew1) | exact HB.out)⟩⟩
                            · replace c41 := Bool.eq_false_iff.mpr c41
                              subst c41
                              have H1 : (if 0 ≤ x5_2 then (if x5_2 ≤ x7_3 then (if x7_3 ≤ (a0.size : Int) then (if x4_2.length < 5864062014805 then (impl_parts.l0 k3 a0 (x4_2 ++ [(⟨0, a0.extract (x5_2 : Int).toNat (x7_3 : Int).toNat⟩ : S67)]) x7_3) else (none)) else (none)) else (none)) else (none)) = some (r1, r2) := by rw [if_neg (show ¬ (false = true) by decide)] at H; exact H
                              clear H
                              have H := H1
                              clear H1
                              by_cases c42 : 0 ≤ x5_2
                              · rw [if_pos c42] at H
                                have c42b0 := eq_true c42
                                have c42b1 : decide (0 ≤ x5_2) = true := decide_eq_true c42
                                clear c42
                                by_cases c43 : x5_2 ≤ x7_3
                                · rw [if_pos c43] at H
                                  have c43b0 := eq_true c43
                                  have c43b1 : decide (x5_2 ≤ x7_3) = true := decide_eq_true c43
                                  clear c43
                                  by_cases c44 : x7_3 ≤ (a0.size : Int)
                                  · rw [if_pos c44] at H
                                    have c44b0 := eq_true c44
                                    have c44b1 : decide (x7_3 ≤ (a0.size : Int)) = true := decide_eq_true c44
                                    clear c44
                                    by_cases c45 : x4_2.length < 5864062014805
                                    · rw [if_pos c45] at H
                                      have LMc45 := Aside0.mk c45
                                      clear c45
                                      obtain ⟨y194, hy194⟩ : ∃ y_ : List (S67), y_ = (x4_2 ++ [(⟨0, a0.extract (x5_2 : Int).toNat (x7_3 : Int).toNat⟩ : S67)]) := ⟨_, rfl⟩
                                      replace H : (impl_parts.l0 k3 a0 y194 x7_3) = some (r1, r2) := by first | (rw [hy194]; with_reducible exact H) | (have H2_ := (Option.bind_some _ _).symm.trans H; rw [hy194]; with_reducible exact H2_) | (have H2_ := (Option.bind_some _ _).symm.trans H; with_reducible exact H2_) | with_reducible exact H | (rw [hy194]; exact H) | exact H
                                      have Ny194 := Aside0.mk hy194
                                      clear hy194
                                      have H' := Aside0.mk H
                                      clear H
                                      have p39 : 0 ≤ (x7_3 : Int) := of_decide_eq_true (by first | (with_reducible assumption) | assumption)
                                      have q39 : x7_3 < (a0.size : Int) := of_decide_eq_true (by first | (with_reducible assumption) | assumption)
                                      have hx39 := bt_at a0 x7_3
                                      replace p39 := eq_true p39
                                      replace q39 := eq_true q39
                                      go_wp2_with (first | (go_at_call 57; (with_reducible refine (impl_letter.calls (bt a0 x7_3) false _ A40.out).mono ?_); rintro e w' ⟨rfl, ⟨nd, rfl⟩⟩) | ((with_reducible refine gate_builtin (b := .append) (xs := #[.tmp 79, .tmp 85]) rfl ?_); (try (refine gate_guard (by rfl) ?_; dsimp only)); at_builtin; refine Kd.R_append k67 (w0 := w) w.heap.size rfl (.tmp 79) (.tmp 85) 54 67 (.agg #[(.int .i64 0), (.string ⟨#[]⟩)]) 24 rfl Tryd.underlying54 info67 rfl (by decide) (by omega) u4 x4_2 (⟨0, a0.extract (x5_2 : Int).toNat (x7_3 : Int).toNat⟩ : S67) [.int .i64 0, .string (a0.extract (x5_2 : Int).toNat (x7_3 : Int).toNat)] (fun _ => True) (fun _ => False) rfl rfl ?aP (fun _ hk => hk.elim) ?aF ?aO ?aB ?aS ?aL ?_; (case aP => exact k67_mkM _ _ _ (⟨0, a0.extract (x5_2 : Int).toNat (x7_3 : Int).toNat⟩ : S67)); (case aB => exact (by repeat (first | (with_reducible first | exact HB.out | apply below_alloc | apply pw_below_drewN | apply below_drew1) | exact HB.out))); (case aF => exact (fun _ _ => trivial)); (case aO => exact (by (with_reducible repeat (first | apply Kd.R_alloc | apply Kd.R_drewN | apply Kd.R_drew)); exact HO_4.out)); (case aS => exact (below_size (by repeat (first | (with_reducible first | exact HB.out | apply below_alloc | apply pw_below_drewN | apply below_drew1) | exact HB.out)))); (case aL => have := LMc45.out; omega); intro v195 w46 ho hb hg hat; rw [← Ny194.out] at ho; have n0_ := Aside0.mk (hb); have n1_ := Aside0.mk (ho); clear HB; clear HO_4; have HB := n0_; have HO196 := n1_; clear n0_ n1_; clear ho hb hg hat))
                                      go_roundg k3
                                      case measure => have := HJ1.out; have := HK2.out; have := HK3.out; omega
                                      case rel => exact ⟨(y194), (x7_3), (by first | rfl | (simp; done) | (simp [*]; done)), H', ⟨by have := HJ1.out; have := HK2.out; have := HK3.out; omega⟩, ⟨by (with_reducible repeat (first | apply Kd.R_alloc | apply Kd.R_drewN | apply Kd.R_drew)); exact HO196.out⟩, ⟨by repeat (first | (with_reducible first | exact HB.out | apply below_alloc | apply pw_below_drewN | apply below_drew1) | exact HB.out)⟩⟩
                                    · rw [if_neg c45] at H
                                      exact absurd H (by simp)
                                  · rw [if_neg c44] at H
                                    exact absurd H (by simp)
                                · rw [if_neg c43] at H
                                  exact absurd H (by simp)
                              · rw [if_neg c42] at H
                                exact absurd H (by simp)
                          · rw [if_neg c38] at H
                            exact absurd H (by simp)
                        · rw [if_neg c37] at H
                          have c37b0 : decide (x7_3 < (a0.size : Int)) = false := decide_eq_false c37
                          clear c37
                          by_cases c47 : 0 ≤ x5_2
                          · rw [if_pos c47] at H
                            have c47b0 := eq_true c47
                            have c47b1 : decide (0 ≤ x5_2) = true := decide_eq_true c47
                            clear c47
                            by_cases c48 : x5_2 ≤ x7_3
                            · rw [if_pos c48] at H
                              have c48b0 := eq_true c48
                              have c48b1 : decide (x5_2 ≤ x7_3) = true := decide_eq_true c48
                              clear c48
                              by_cases c49 : x7_3 ≤ (a0.size : Int)
                              · rw [if_pos c49] at H
                                have c49b0 := eq_true c49
                                have c49b1 : decide (x7_3 ≤ (a0.size : Int)) = true := decide_eq_true c49
                                clear c49
                                by_cases c50 : x4_2.length < 5864062014805
                                · rw [if_pos c50] at H
                                  have LMc50 := Aside0.mk c50
                                  clear c50
                                  obtain ⟨y197, hy197⟩ : ∃ y_ : List (S67), y_ = (x4_2 ++ [(⟨0, a0.extract (x5_2 : Int).toNat (x7_3 : Int).toNat⟩ : S67)]) := ⟨_, rfl⟩
                                  replace H : (impl_parts.l0 k3 a0 y197 x7_3) = some (r1, r2) := by first | (rw [hy197]; with_reducible exact H) | (have H2_ := (Option.bind_some _ _).symm.trans H; rw [hy197]; with_reducible exact H2_) | (have H2_ := (Option.bind_some _ _).symm.trans H; with_reducible exact H2_) | with_reducible exact H | (rw [hy197]; exact H) | exact H
                                  have Ny197 := Aside0.mk hy197
                                  clear hy197
                                  have H' := Aside0.mk H
                                  clear H
                                  go_wp2_with (first | ((with_reducible refine gate_builtin (b := .append) (xs := #[.tmp 79, .tmp 85]) rfl ?_); (try (refine gate_guard (by rfl) ?_; dsimp only)); at_builtin; refine Kd.R_append k67 (w0 := w) w.heap.size rfl (.tmp 79) (.tmp 85) 54 67 (.agg #[(.int .i64 0), (.string ⟨#[]⟩)]) 24 rfl Tryd.underlying54 info67 rfl (by decide) (by omega) u4 x4_2 (⟨0, a0.extract (x5_2 : Int).toNat (x7_3 : Int).toNat⟩ : S67) [.int .i64 0, .string (a0.extract (x5_2 : Int).toNat (x7_3 : Int).toNat)] (fun _ => True) (fun _ => False) rfl rfl ?aP (fun _ hk => hk.elim) ?aF ?aO ?aB ?aS ?aL ?_; (case aP => exact k67_mkM _ _ _ (⟨0, a0.extract (x5_2 : Int).toNat (x7_3 : Int).toNat⟩ : S67)); (case aB => exact (by repeat (first | (with_reducible first | exact HB.out | apply below_alloc | apply pw_below_drewN | apply below_drew1) | exact HB.out))); (case aF => exact (fun _ _ => trivial)); (case aO => exact (by (with_reducible repeat (first | apply Kd.R_alloc | apply Kd.R_drewN | apply Kd.R_drew)); exact HO_4.out)); (case aS => exact (below_size (by repeat (first | (with_reducible first | exact HB.out | apply below_alloc | apply pw_below_drewN | apply below_drew1) | exact HB.out)))); (case aL => have := LMc50.out; omega); intro v198 w51 ho hb hg hat; rw [← Ny197.out] at ho; have n0_ := Aside0.mk (hb); have n1_ := Aside0.mk (ho); clear HB; clear HO_4; have HB := n0_; have HO199 := n1_; clear n0_ n1_; clear ho hb hg hat))
                                  go_roundg k3
                                  case measure => have := HJ1.out; have := HK2.out; have := HK3.out; omega
                                  case rel => exact ⟨(y197), (x7_3), (by first | rfl | (simp; done) | (simp [*]; done)), H', ⟨by have := HJ1.out; have := HK2.out; have := HK3.out; omega⟩, ⟨by (with_reducible repeat (first | apply Kd.R_alloc | apply Kd.R_drewN | apply Kd.R_drew)); exact HO199.out⟩, ⟨by repeat (first | (with_reducible first | exact HB.out | apply below_alloc | apply pw_below_drewN | apply below_drew1) | exact HB.out)⟩⟩
                                · rw [if_neg c50] at H
                                  exact absurd H (by simp)
                              · rw [if_neg c49] at H
                                exact absurd H (by simp)
                            · rw [if_neg c48] at H
                              exact absurd H (by simp)
                          · rw [if_neg c47] at H
                            exact absurd H (by simp)
                  · replace c36 := Bool.eq_false_iff.mpr c36
                    subst c36
                    have H1 : (if (bt a0 x5_2) = 46 then (impl_parts.l0 k2 a0 x4_2 (wrap64 (x5_2 + 1))) else (if (bt a0 x5_2) = 45 then (impl_parts.l0 k2 a0 x4_2 (wrap64 (x5_2 + 1))) else (some (([] : List (S67)), false)))) = some (r1, r2) := by rw [if_neg (show ¬ (false = true) by decide)] at H; exact H
                    clear H
                    have H := H1
                    clear H1
                    by_cases c52 : (bt a0 x5_2) = 46
                    · rw [if_pos c52] at H
                      have c52b0 : ((bt a0 x5_2) == 46) = true := beq_iff_eq.mpr c52
                      have c52b1 : ((bt a0 x5_2) != 46) = false := bne_eq_false_iff_eq.mpr c52
                      clear c52
                      have H' := Aside0.mk H
                      clear H
                      have p11 : 0 ≤ (x5_2 : Int) := of_decide_eq_true (by first | (with_reducible assumption) | assumption)
                      have q11 : x5_2 < (a0.size : Int) := of_decide_eq_true (by first | (with_reducible assumption) | assumption)
                      have hx11 := bt_at a0 x5_2
                      replace p11 := eq_true p11
                      replace q11 := eq_true q11
                      go_wp2_with (first | ((with_reducible refine gate_callee (f := 55) rfl ?_); refine goesL_ (some 34) rfl rfl Tryd.func55 (by kernel_rfl) rfl #[.int .u8 (bt a0 x5_2)] rfl (by (try simp only [List.map_toArray, List.map_cons, List.map_nil]); first | done | rfl | (simp only [List.length_drop, List.length_take]; rfl)) ?_; (with_reducible refine (impl_digit.calls (bt a0 x5_2) false _ A12.out).mono ?_); rintro e w' ⟨rfl, ⟨nd, rfl⟩⟩; refine ⟨_, rfl, ?_⟩) | ((with_reducible refine gate_callee (f := 57) rfl ?_); refine goesL_ (some 66) rfl rfl Tryd.func57 (by kernel_rfl) rfl #[.int .u8 (bt a0 x5_2)] rfl (by (try simp only [List.map_toArray, List.map_cons, List.map_nil]); first | done | rfl | (simp only [List.length_drop, List.length_take]; rfl)) ?_; (with_reducible refine (impl_letter.calls (bt a0 x5_2) false _ A35.out).mono ?_); rintro e w' ⟨rfl, ⟨nd, rfl⟩⟩; refine ⟨_, rfl, ?_⟩))
                      go_roundg k2
                      case measure => have := HJ1.out; have := HK2.out; omega
                      case rel => exact ⟨(x4_2), (wrap64 (x5_2 + 1)), (by first | rfl | (simp; done) | (simp [*]; done)), H', ⟨by have := HJ1.out; have := HK2.out; omega⟩, ⟨by (with_reducible repeat (first | apply Kd.R_alloc | apply Kd.R_drewN | apply Kd.R_drew)); exact HO_4.out⟩, ⟨by repeat (first | (with_reducible first | exact HB.out | apply below_alloc | apply pw_below_drewN | apply below_drew1) | exact HB.out)⟩⟩
                    · rw [if_neg c52] at H
                      have c52b0 : ((bt a0 x5_2) == 46) = false := beq_eq_false_iff_ne.mpr c52
                      have c52b1 : ((bt a0 x5_2) != 46) = true := bne_iff_ne.mpr c52
                      by_cases c53 : (bt a0 x5_2) = 45
                      · rw [if_pos c53] at H
                        have c53b0 : ((bt a0 x5_2) == 45) = true := beq_iff_eq.mpr c53
                        have c53b1 : ((bt a0 x5_2) != 45) = false := bne_eq_false_iff_eq.mpr c53
                        clear c53
                        have H' := Aside0.mk H
                        clear H
                        have p11 : 0 ≤ (x5_2 : Int) := of_decide_eq_true (by first | (with_reducible assumption) | assumption)
                        have q11 : x5_2 < (a0.size : Int) := of_decide_eq_true (by first | (with_reducible assumption) | assumption)
                        have hx11 := bt_at a0 x5_2
                        replace p11 := eq_true p11
                        replace q11 := eq_true q11
                        go_wp2_with (first | ((with_reducible refine gate_callee (f := 55) rfl ?_); refine goesL_ (some 34) rfl rfl Tryd.func55 (by kernel_rfl) rfl #[.int .u8 (bt a0 x5_2)] rfl (by (try simp only [List.map_toArray, List.map_cons, List.map_nil]); first | done | rfl | (simp only [List.length_drop, List.length_take]; rfl)) ?_; (with_reducible refine (impl_digit.calls (bt a0 x5_2) false _ A12.out).mono ?_); rintro e w' ⟨rfl, ⟨nd, rfl⟩⟩; refine ⟨_, rfl, ?_⟩) | ((with_reducible refine gate_callee (f := 57) rfl ?_); refine goesL_ (some 66) rfl rfl Tryd.func57 (by kernel_rfl) rfl #[.int .u8 (bt a0 x5_2)] rfl (by (try simp only [List.map_toArray, List.map_cons, List.map_nil]); first | done | rfl | (simp only [List.length_drop, List.length_take]; rfl)) ?_; (with_reducible refine (impl_letter.calls (bt a0 x5_2) false _ A35.out).mono ?_); rintro e w' ⟨rfl, ⟨nd, rfl⟩⟩; refine ⟨_, rfl, ?_⟩))
                        go_roundg k2
                        case measure => have := HJ1.out; have := HK2.out; omega
                        case rel => exact ⟨(x4_2), (wrap64 (x5_2 + 1)), (by first | rfl | (simp; done) | (simp [*]; done)), H', ⟨by have := HJ1.out; have := HK2.out; omega⟩, ⟨by (with_reducible repeat (first | apply Kd.R_alloc | apply Kd.R_drewN | apply Kd.R_drew)); exact HO_4.out⟩, ⟨by repeat (first | (with_reducible first | exact HB.out | apply below_alloc | apply pw_below_drewN | apply below_drew1) | exact HB.out)⟩⟩
                      · rw [if_neg c53] at H
                        have c53b0 : ((bt a0 x5_2) == 45) = false := beq_eq_false_iff_ne.mpr c53
                        have c53b1 : ((bt a0 x5_2) != 45) = true := bne_iff_ne.mpr c53
                        simp only [Option.some.injEq, Prod.mk.injEq] at H
                        obtain ⟨rfl, rfl⟩ := H
                        have p11 : 0 ≤ (x5_2 : Int) := of_decide_eq_true (by first | (with_reducible assumption) | assumption)
                        have q11 : x5_2 < (a0.size : Int) := of_decide_eq_true (by first | (with_reducible assumption) | assumption)
                        have hx11 := bt_at a0 x5_2
                        replace p11 := eq_true p11
                        replace q11 := eq_true q11
                        go_wp2_with (first | ((with_reducible refine gate_callee (f := 55) rfl ?_); refine goesL_ (some 34) rfl rfl Tryd.func55 (by kernel_rfl) rfl #[.int .u8 (bt a0 x5_2)] rfl (by (try simp only [List.map_toArray, List.map_cons, List.map_nil]); first | done | rfl | (simp only [List.length_drop, List.length_take]; rfl)) ?_; (with_reducible refine (impl_digit.calls (bt a0 x5_2) false _ A12.out).mono ?_); rintro e w' ⟨rfl, ⟨nd, rfl⟩⟩; refine ⟨_, rfl, ?_⟩) | ((with_reducible refine gate_callee (f := 57) rfl ?_); refine goesL_ (some 66) rfl rfl Tryd.func57 (by kernel_rfl) rfl #[.int .u8 (bt a0 x5_2)] rfl (by (try simp only [List.map_toArray, List.map_cons, List.map_nil]); first | done | rfl | (simp only [List.length_drop, List.length_take]; rfl)) ?_; (with_reducible refine (impl_letter.calls (bt a0 x5_2) false _ A35.out).mono ?_); rintro e w' ⟨rfl, ⟨nd, rfl⟩⟩; refine ⟨_, rfl, ?_⟩))
                        go_ret2
                        exact ⟨_, by first | rfl | (simp [errW_none, errW_some] <;> rfl) | (simp [*, errW_none, errW_some] <;> rfl), by first | exact Kd.R_nil _ _ _ _ _ | exact Kd.N_nil _ _ _ _ _ | exact Kd.V_nil _ _ _ _ _ | exact Kd.Q_nil _ _ _ _ _ | exact Kd.S_nil _ _ _ _ _, by repeat (first | (with_reducible first | exact HB.out | apply below_alloc | apply pw_below_drewN | apply below_drew1) | exact HB.out)⟩
              · rw [if_neg c10] at H
                exact absurd H (by simp)
            · rw [if_neg c9] at H
              have c9b0 : decide (x5_2 < (a0.size : Int)) = false := decide_eq_false c9
              clear c9
              simp only [Option.some.injEq, Prod.mk.injEq] at H
              obtain ⟨rfl, rfl⟩ := H
              go_wp2
              go_ret2
              exact ⟨_, by first | rfl | (simp [errW_none, errW_some] <;> rfl) | (simp [*, errW_none, errW_some] <;> rfl), by (with_reducible repeat (first | apply Kd.R_alloc | apply Kd.R_drewN | apply Kd.R_drew)); exact HO_4.out, by repeat (first | (with_reducible first | exact HB.out | apply below_alloc | apply pw_below_drewN | apply below_drew1) | exact HB.out)⟩
end Go.Proofs.YthfohhpjanoimaaDoor.P
end

section
namespace Go.Proofs.YthfohhpjanoimaaDoor.P
open Go.RowKit Go.Proofs.YthfohhpjanoimaaDoorW.PrintWords Go.Proofs.YthfohhpjanoimaaDoorW.PrintLast Go.Proofs.YthfohhpjanoimaaDoorW.PrintMore Go.Proofs.YthfohhpjanoimaaDoorM
attribute [local go_sem] max2_int min2_int max_two min_two max_three min_three max_four min_four   -- for this text's walks alone
set_option linter.unusedVariables false
set_option linter.unusedSimpArgs false
theorem eqA88 (d : Nat) (w : World) (x0 y0 : ByteArray) (x1 y1 : Int) :
    (Op.equalIn (d + 2) 88 (.agg #[.string x0, .int .i64 x1]) (.agg #[.string y0, .int .i64 y1])).run Tryd.prog w = .ok (x0.toList == y0.toList && (x1 == y1)) w := by
  refine eqA_of Tryd.underlying88 (by kernel_rfl) ?_
  refine eqf_cons (by rfl) (by go_simp; rfl) (by go_simp; rfl) (by go_simp) ?_
  exact eqf_last (by rfl) (by go_simp; rfl) (by go_simp; rfl) (by go_simp)
end Go.Proofs.YthfohhpjanoimaaDoor.P
end

section
namespace Go.Proofs.YthfohhpjanoimaaDoor.P
open Go.RowKit Go.Proofs.YthfohhpjanoimaaDoorW.PrintWords Go.Proofs.YthfohhpjanoimaaDoorW.PrintLast Go.Proofs.YthfohhpjanoimaaDoorW.PrintMore Go.Proofs.YthfohhpjanoimaaDoorM
attribute [local go_sem] max2_int min2_int max_two min_two max_three min_three max_four min_four   -- for this text's walks alone
set_option linter.unusedVariables false
set_option linter.unusedSimpArgs false
end Go.Proofs.YthfohhpjanoimaaDoor.P
end

section
namespace Go.Proofs.YthfohhpjanoimaaDoor.P
open Go.RowKit Go.Proofs.YthfohhpjanoimaaDoorW.PrintWords Go.Proofs.YthfohhpjanoimaaDoorW.PrintLast Go.Proofs.YthfohhpjanoimaaDoorW.PrintMore Go.Proofs.YthfohhpjanoimaaDoorM
attribute [local go_sem] max2_int min2_int max_two min_two max_three min_three max_four min_four   -- for this text's walks alone
set_option linter.unusedVariables false
set_option linter.unusedSimpArgs false
end Go.Proofs.YthfohhpjanoimaaDoor.P
end

section
namespace Go.Proofs.YthfohhpjanoimaaDoor.P
open Go.RowKit Go.Proofs.YthfohhpjanoimaaDoorW.PrintWords Go.Proofs.YthfohhpjanoimaaDoorW.PrintLast Go.Proofs.YthfohhpjanoimaaDoorW.PrintMore Go.Proofs.YthfohhpjanoimaaDoorM
attribute [local go_sem] max2_int min2_int max_two min_two max_three min_three max_four min_four   -- for this text's walks alone
set_option linter.unusedVariables false
set_option linter.unusedSimpArgs false
def spec_l6Rank.f (l0 : List (S88)) (a1 : Int) : Option (Int) := if a1 ≥ (l0.length : Int) then (some 1) else (if 0 ≤ a1 then (if a1 < (l0.length : Int) then (if ((rd_T88 l0 a1).f0).toList = ([] : List UInt8) then (some 2) else (some 0)) else (none)) else (none))
set_option maxHeartbeats 8000000 in
set_option maxRecDepth 100000 in
theorem spec_l6Rank.calls (A0 : Option Addr) (c0 : Nat) (l0 : List (S88)) (a1 : Int) (r : Int) (w : World) (hr0 : Kd.C k88 w A0 l0.length l0) (hc0 : l0.length ≤ c0) (h : spec_l6Rank.f l0 a1 = some r) :
    Calls Tryd.prog 60 #[.slice A0 l0.length c0, .int .i64 a1] w fun e w' => e = .returned (.int .i64 r) ∧ Drawn0 w w' := by
  have HR0 := Aside0.mk hr0
  have HC0 := Aside0.mk hc0
  clear hr0 hc0
  have H : (if a1 ≥ (l0.length : Int) then (some 1) else (if 0 ≤ a1 then (if a1 < (l0.length : Int) then (if ((rd_T88 l0 a1).f0).toList = ([] : List UInt8) then (some 2) else (some 0)) else (none)) else (none))) = some r := h
  clear h
  by_cases c3 : a1 ≥ (l0.length : Int)
  · rw [if_pos c3] at H
    have c3b0 : decide ((l0.length : Int) ≤ a1) = true := decide_eq_true c3
    clear c3
    obtain rfl := Option.some.inj H
    go_enter Tryd.func60, Tryd.ntmps60
    go_wp2
    go_ret
    exact ⟨by first | rfl | (simp; done) | (simp [*]; done), by repeat (first | exact Drawn0.refl _ | apply Drawn0.step)⟩
  · rw [if_neg c3] at H
    have c3b0 : decide ((l0.length : Int) ≤ a1) = false := decide_eq_false c3
    clear c3
    by_cases c4 : 0 ≤ a1
    · rw [if_pos c4] at H
      have c4b0 : decide (0 ≤ a1) = true := decide_eq_true c4
      clear c4
      by_cases c5 : a1 < (l0.length : Int)
      · rw [if_pos c5] at H
        have c5b0 : decide (a1 < (l0.length : Int)) = true := decide_eq_true c5
        clear c5
        by_cases c6 : ((rd_T88 l0 a1).f0).toList = ([] : List UInt8)
        · rw [if_pos c6] at H
          have c6b0 : (((rd_T88 l0 a1).f0).toList == ([] : List UInt8)) = true := beq_iff_eq.mpr c6
          have c6b1 : (((rd_T88 l0 a1).f0).toList != ([] : List UInt8)) = false := bne_eq_false_iff_eq.mpr c6
          clear c6
          obtain rfl := Option.some.inj H
          have p270 : 0 ≤ (a1 : Int) := of_decide_eq_true (by first | (with_reducible assumption) | assumption)
          have q270 : a1 < (l0.length : Int) := of_decide_eq_true (by first | (with_reducible assumption) | assumption)
          obtain ⟨ad270, e270, hx270_0, hx270_1⟩ := at_T88 HR0.out a1 p270 q270
          cases e270
          replace p270 := eq_true p270
          replace q270 := eq_true q270
          go_enter Tryd.func60, Tryd.ntmps60
          go_wp2
          go_ret
          exact ⟨by first | rfl | (simp; done) | (simp [*]; done), by repeat (first | exact Drawn0.refl _ | apply Drawn0.step)⟩
        · rw [if_neg c6] at H
          have c6b0 : (((rd_T88 l0 a1).f0).toList == ([] : List UInt8)) = false := beq_eq_false_iff_ne.mpr c6
          have c6b1 : (((rd_T88 l0 a1).f0).toList != ([] : List UInt8)) = true := bne_iff_ne.mpr c6
          obtain rfl := Option.some.inj H
          have p270 : 0 ≤ (a1 : Int) := of_decide_eq_true (by first | (with_reducible assumption) | assumption)
          have q270 : a1 < (l0.length : Int) := of_decide_eq_true (by first | (with_reducible assumption) | assumption)
          obtain ⟨ad270, e270, hx270_0, hx270_1⟩ := at_T88 HR0.out a1 p270 q270
          cases e270
          replace p270 := eq_true p270
          replace q270 := eq_true q270
          go_enter Tryd.func60, Tryd.ntmps60
          go_wp2
          go_ret
          exact ⟨by first | rfl | (simp; done) | (simp [*]; done), by repeat (first | exact Drawn0.refl _ | apply Drawn0.step)⟩
      · rw [if_neg c5] at H
        exact absurd H (by simp)
    · rw [if_neg c4] at H
      exact absurd H (by simp)
end Go.Proofs.YthfohhpjanoimaaDoor.P
end

section
namespace Go.Proofs.YthfohhpjanoimaaDoor.P
open Go.RowKit Go.Proofs.YthfohhpjanoimaaDoorW.PrintWords Go.Proofs.YthfohhpjanoimaaDoorW.PrintLast Go.Proofs.YthfohhpjanoimaaDoorW.PrintMore Go.Proofs.YthfohhpjanoimaaDoorM
attribute [local go_sem] max2_int min2_int max_two min_two max_three min_three max_four min_four   -- for this text's walks alone
set_option linter.unusedVariables false
set_option linter.unusedSimpArgs false
mutual
def spec_l6Compare.l0 : Nat → List (S88) → List (S88) → Int → Option (Int)
  | 0, _, _, _ => none
  | k + 1, x0, x1, x5 => if x5 < (x0.length : Int) then (spec_l6Compare.j1 k x0 x1 x5 true) else (spec_l6Compare.j1 k x0 x1 x5 (decide (x5 < (x1.length : Int))))
def spec_l6Compare.j1 : Nat → List (S88) → List (S88) → Int → Bool → Option (Int)
  | 0, _, _, _, _ => none
  | k + 1, x0, x1, x5, x17 => if x17 = true then ((spec_l6Rank.f x0 x5).bind fun t271 => ((spec_l6Rank.f x1 x5).bind fun t272 => (if t271 < t272 then (spec_l6Compare.j2 k x0 x1 x5 t271 t272 true) else (if t271 = 0 then (if t272 = 0 then (if 0 ≤ x5 then (if x5 < (x0.length : Int) then (if x5 < (x1.length : Int) then (if (Op.bytesLess (((rd_T88 x0 x5).f0).toList) (((rd_T88 x1 x5).f0).toList)) = true then (spec_l6Compare.j2 k x0 x1 x5 t271 t272 true) else (if t271 = 2 then (if t272 = 2 then (spec_l6Compare.j2 k x0 x1 x5 t271 t272 (decide (((rd_T88 x0 x5).f1) < ((rd_T88 x1 x5).f1)))) else (spec_l6Compare.j2 k x0 x1 x5 t271 t272 false)) else (spec_l6Compare.j2 k x0 x1 x5 t271 t272 false))) else (none)) else (none)) else (none)) else (if t271 = 2 then (if t272 = 2 then (if 0 ≤ x5 then (if x5 < (x0.length : Int) then (if x5 < (x1.length : Int) then (spec_l6Compare.j2 k x0 x1 x5 t271 t272 (decide (((rd_T88 x0 x5).f1) < ((rd_T88 x1 x5).f1)))) else (none)) else (none)) else (none)) else (spec_l6Compare.j2 k x0 x1 x5 t271 t272 false)) else (spec_l6Compare.j2 k x0 x1 x5 t271 t272 false))) else (if t271 = 2 then (if t272 = 2 then (if 0 ≤ x5 then (if x5 < (x0.length : Int) then (if x5 < (x1.length : Int) then (spec_l6Compare.j2 k x0 x1 x5 t271 t272 (decide (((rd_T88 x0 x5).f1) < ((rd_T88 x1 x5).f1)))) else (none)) else (none)) else (none)) else (spec_l6Compare.j2 k x0 x1 x5 t271 t272 false)) else (spec_l6Compare.j2 k x0 x1 x5 t271 t272 false)))))) else (some 0)
def spec_l6Compare.j2 : Nat → List (S88) → List (S88) → Int → Int → Int → Bool → Option (Int)
  | 0, _, _, _, _, _, _ => none
  | k + 1, x0, x1, x5, x6, x7, x26 => if x26 = true then (some (-1)) else (if x6 > x7 then (some 1) else (if x6 = 0 then (if 0 ≤ x5 then (if x5 < (x0.length : Int) then (if x5 < (x1.length : Int) then (if (Op.bytesLess (((rd_T88 x1 x5).f0).toList) (((rd_T88 x0 x5).f0).toList)) = true then (some 1) else (if x6 = 2 then (if ((rd_T88 x0 x5).f1) > ((rd_T88 x1 x5).f1) then (some 1) else (spec_l6Compare.l0 k x0 x1 (wrap64 (x5 + 1)))) else (spec_l6Compare.l0 k x0 x1 (wrap64 (x5 + 1))))) else (none)) else (none)) else (none)) else (if x6 = 2 then (if 0 ≤ x5 then (if x5 < (x0.length : Int) then (if x5 < (x1.length : Int) then (if ((rd_T88 x0 x5).f1) > ((rd_T88 x1 x5).f1) then (some 1) else (spec_l6Compare.l0 k x0 x1 (wrap64 (x5 + 1)))) else (none)) else (none)) else (none)) else (spec_l6Compare.l0 k x0 x1 (wrap64 (x5 + 1))))))
end
def spec_l6Compare.f (k : Nat) (l0 : List (S88)) (l1 : List (S88)) : Option (Int) := spec_l6Compare.l0 k l0 l1 0
set_option maxHeartbeats 8000000 in
set_option maxRecDepth 100000 in
theorem spec_l6Compare.calls (k : Nat) (A0 : Option Addr) (c0 : Nat) (l0 : List (S88)) (A1 : Option Addr) (c1 : Nat) (l1 : List (S88)) (r : Int) (w : World) (hr0 : Kd.C k88 w A0 l0.length l0) (hc0 : l0.length ≤ c0) (hr1 : Kd.C k88 w A1 l1.length l1) (hc1 : l1.length ≤ c1) (h : spec_l6Compare.f k l0 l1 = some r) :
    Calls Tryd.prog 43 #[.slice A0 l0.length c0, .slice A1 l1.length c1] w fun e w' => e = .returned (.int .i64 r) ∧ Drawn0 w w' := by
  have HR0 := Aside0.mk hr0
  have HC0 := Aside0.mk hc0
  clear hr0 hc0
  have HR1 := Aside0.mk hr1
  have HC1 := Aside0.mk hc1
  clear hr1 hc1
  have H : (spec_l6Compare.l0 k l0 l1 0) = some r := h
  clear h
  have H' := Aside0.mk H
  clear H
  go_enter Tryd.func43, Tryd.ntmps43
  go_wp2
  repeat (go_quiet (fail); try go_wp2)
  go_loopg [5] k (fun kq v5 w' => ∃ (x5_1 : Int), v5 = .int .i64 x5_1 ∧ Aside0 (spec_l6Compare.l0 kq l0 l1 x5_1 = some r) ∧ Aside0 (kq ≤ k) ∧ Drawn0 w w')
  case atStart => exact ⟨(0), (by first | rfl | (simp; done) | (simp [*]; done)), H', ⟨Nat.le_refl _⟩, by repeat (first | exact Drawn0.refl _ | apply Drawn0.step)⟩
  case round =>
    clear H'
    try clear c1
    try clear p2
    obtain ⟨x5_1, rfl, HA, HK1, ⟨m1, rfl⟩⟩ := hrel
    cases gk with
    | zero => exact absurd HA.out (by simp [spec_l6Compare.l0])
    | succ k1 =>
      have H := HA.out
      clear HA
      simp only [spec_l6Compare.l0] at H
      have HC3 := Aside0.mk H
      clear H
      go_upto_region 2 with (fail)
      repeat (go_quiet (fail); go_upto_region 2 with (fail))
      go_cut [17] (fun v17 wc => ∃ (kq : Nat) (x17_2 : Bool), v17 = .bool x17_2 ∧ Aside0 (spec_l6Compare.j1 kq l0 l1 x5_1 x17_2 = some r) ∧ Aside0 (kq ≤ k1) ∧ Drawn0 w wc)
      case first =>
        have H := HC3.out
        clear HC3
        by_cases c4 : x5_1 < (l0.length : Int)
        · rw [if_pos c4] at H
          have c4b0 : decide (x5_1 < (l0.length : Int)) = true := decide_eq_true c4
          clear c4
          (first | rw [c4b0] | (simp only [i64_w, i32_w]; rw [c4b0]) | skip)
          have H' := Aside0.mk H
          clear H
          go_wp2
          repeat (go_quiet (fail); try go_wp2)
          go_meet
          case rel => exact ⟨_, (true), (by first | rfl | (simp; done) | (simp [*]; done)), H', ⟨by have := HK1.out; first | omega | exact Nat.le_refl _⟩, by repeat (first | exact Drawn0.refl _ | apply Drawn0.step)⟩
        · rw [if_neg c4] at H
          have c4b0 : decide (x5_1 < (l0.length : Int)) = false := decide_eq_false c4
          clear c4
          (first | rw [c4b0] | (simp only [i64_w, i32_w]; rw [c4b0]) | skip)
          have H' := Aside0.mk H
          clear H
          go_wp2
          repeat (go_quiet (fail); try go_wp2)
          go_meet
          case rel => exact ⟨_, (decide (x5_1 < (l1.length : Int))), (by first | rfl | (simp; done) | (simp [*]; done)), H', ⟨by have := HK1.out; first | omega | exact Nat.le_refl _⟩, by repeat (first | exact Drawn0.refl _ | apply Drawn0.step)⟩
      case rest =>
        clear HC3
        try clear c1
        try clear p2
        try clear c4
        try clear c4b0
        try clear p2
        obtain ⟨kq, x17_2, rfl, HA, HJ2, ⟨mc2, rfl⟩⟩ := hcut
        cases kq with
        | zero => exact absurd HA.out (by simp [spec_l6Compare.j1])
        | succ kj2 =>
          have H := HA.out
          clear HA
          simp only [spec_l6Compare.j1] at H
          by_cases c5 : x17_2 = true
          · subst c5
            have H1 : ((spec_l6Rank.f l0 x5_1).bind fun t271 => ((spec_l6Rank.f l1 x5_1).bind fun t272 => (if t271 < t272 then (spec_l6Compare.j2 kj2 l0 l1 x5_1 t271 t272 true) else (if t271 = 0 then (if t272 = 0 then (if 0 ≤ x5_1 then (if x5_1 < (l0.length : Int) then (if x5_1 < (l1.length : Int) then (if (Op.bytesLess (((rd_T88 l0 x5_1).f0).toList) (((rd_T88 l1 x5_1).f0).toList)) = true then (spec_l6Compare.j2 kj2 l0 l1 x5_1 t271 t272 true) else (if t271 = 2 then (if t272 = 2 then (spec_l6Compare.j2 kj2 l0 l1 x5_1 t271 t272 (decide (((rd_T88 l0 x5_1).f1) < ((rd_T88 l1 x5_1).f1)))) else (spec_l6Compare.j2 kj2 l0 l1 x5_1 t271 t272 false)) else (spec_l6Compare.j2 kj2 l0 l1 x5_1 t271 t272 false))) else (none)) else (none)) else (none)) else (if t271 = 2 then (if t272 = 2 then (if 0 ≤ x5_1 then (if x5_1 < (l0.length : Int) then (if x5_1 < (l1.length : Int) then (spec_l6Compare.j2 kj2 l0 l1 x5_1 t271 t272 (decide (((rd_T88 l0 x5_1).f1) < ((rd_T88 l1 x5_1).f1)))) else (none)) else (none)) else (none)) else (spec_l6Compare.j2 kj2 l0 l1 x5_1 t271 t272 false)) else (spec_l6Compare.j2 kj2 l0 l1 x5_1 t271 t272 false))) else (if t271 = 2 then (if t272 = 2 then (if 0 ≤ x5_1 then (if x5_1 < (l0.length : Int) then (if x5_1 < (l1.length : Int) then (spec_l6Compare.j2 kj2 l0 l1 x5_1 t271 t272 (decide (((rd_T88 l0 x5_1).f1) < ((rd_T88 l1 x5_1).f1)))) else (none)) else (none)) else (none)) else (spec_l6Compare.j2 kj2 l0 l1 x5_1 t271 t272 false)) else (spec_l6Compare.j2 kj2 l0 l1 x5_1 t271 t272 false)))))) = some r := by rw [if_pos rfl] at H; exact H
            clear H
            have H := H1
            clear H1
            replace H := Option.bind_eq_some_iff.mp H
            obtain ⟨t271, A60, H⟩ := H
            replace H : ((spec_l6Rank.f l1 x5_1).bind fun t272 => (if t271 < t272 then (spec_l6Compare.j2 kj2 l0 l1 x5_1 t271 t272 true) else (if t271 = 0 then (if t272 = 0 then (if 0 ≤ x5_1 then (if x5_1 < (l0.length : Int) then (if x5_1 < (l1.length : Int) then (if (Op.bytesLess (((rd_T88 l0 x5_1).f0).toList) (((rd_T88 l1 x5_1).f0).toList)) = true then (spec_l6Compare.j2 kj2 l0 l1 x5_1 t271 t272 true) else (if t271 = 2 then (if t272 = 2 then (spec_l6Compare.j2 kj2 l0 l1 x5_1 t271 t272 (decide (((rd_T88 l0 x5_1).f1) < ((rd_T88 l1 x5_1).f1)))) else (spec_l6Compare.j2 kj2 l0 l1 x5_1 t271 t272 false)) else (spec_l6Compare.j2 kj2 l0 l1 x5_1 t271 t272 false))) else (none)) else (none)) else (none)) else (if t271 = 2 then (if t272 = 2 then (if 0 ≤ x5_1 then (if x5_1 < (l0.length : Int) then (if x5_1 < (l1.length : Int) then (spec_l6Compare.j2 kj2 l0 l1 x5_1 t271 t272 (decide (((rd_T88 l0 x5_1).f1) < ((rd_T88 l1 x5_1).f1)))) else (none)) else (none)) else (none)) else (spec_l6Compare.j2 kj2 l0 l1 x5_1 t271 t272 false)) else (spec_l6Compare.j2 kj2 l0 l1 x5_1 t271 t272 false))) else (if t271 = 2 then (if t272 = 2 then (if 0 ≤ x5_1 then (if x5_1 < (l0.length : Int) then (if x5_1 < (l1.length : Int) then (spec_l6Compare.j2 kj2 l0 l1 x5_1 t271 t272 (decide (((rd_T88 l0 x5_1).f1) < ((rd_T88 l1 x5_1).f1)))) else (none)) else (none)) else (none)) else (spec_l6Compare.j2 kj2 l0 l1 x5_1 t271 t272 false)) else (spec_l6Compare.j2 kj2 l0 l1 x5_1 t271 t272 false))))) = some r := H
            have A6 := Aside0.mk A60
            clear A60
            replace H := Option.bind_eq_some_iff.mp H
            obtain ⟨t272, A70, H⟩ := H
            replace H : (if t271 < t272 then (spec_l6Compare.j2 kj2 l0 l1 x5_1 t271 t272 true) else (if t271 = 0 then (if t272 = 0 then (if 0 ≤ x5_1 then (if x5_1 < (l0.length : Int) then (if x5_1 < (l1.length : Int) then (if (Op.bytesLess (((rd_T88 l0 x5_1).f0).toList) (((rd_T88 l1 x5_1).f0).toList)) = true then (spec_l6Compare.j2 kj2 l0 l1 x5_1 t271 t272 true) else (if t271 = 2 then (if t272 = 2 then (spec_l6Compare.j2 kj2 l0 l1 x5_1 t271 t272 (decide (((rd_T88 l0 x5_1).f1) < ((rd_T88 l1 x5_1).f1)))) else (spec_l6Compare.j2 kj2 l0 l1 x5_1 t271 t272 false)) else (spec_l6Compare.j2 kj2 l0 l1 x5_1 t271 t272 false))) else (none)) else (none)) else (none)) else (if t271 = 2 then (if t272 = 2 then (if 0 ≤ x5_1 then (if x5_1 < (l0.length : Int) then (if x5_1 < (l1.length : Int) then (spec_l6Compare.j2 kj2 l0 l1 x5_1 t271 t272 (decide (((rd_T88 l0 x5_1).f1) < ((rd_T88 l1 x5_1).f1)))) else (none)) else (none)) else (none)) else (spec_l6Compare.j2 kj2 l0 l1 x5_1 t271 t272 false)) else (spec_l6Compare.j2 kj2 l0 l1 x5_1 t271 t272 false))) else (if t271 = 2 then (if t272 = 2 then (if 0 ≤ x5_1 then (if x5_1 < (l0.length : Int) then (if x5_1 < (l1.length : Int) then (spec_l6Compare.j2 kj2 l0 l1 x5_1 t271 t272 (decide (((rd_T88 l0 x5_1).f1) < ((rd_T88 l1 x5_1).f1)))) else (none)) else (none)) else (none)) else (spec_l6Compare.j2 kj2 l0 l1 x5_1 t271 t272 false)) else (spec_l6Compare.j2 kj2 l0 l1 x5_1 t271 t272 false)))) = some r := H
            have A7 := Aside0.mk A70
            clear A70
            have HC8 := Aside0.mk H
            clear H
            go_upto_region 6 with (first | (go_at_call 60; (with_reducible refine (spec_l6Rank.calls _ _ l0 x5_1 t271 _ ?side1 ?side2 A6.out).mono ?_); (case side1 => repeat (first | exact HR0.out | (with_reducible refine Kd.C_alloc ?_ _) | (with_reducible refine Kd.C_drewN ?_ _) | (with_reducible refine Kd.C_drew ?_))); (case side2 => exact HC0.out); rintro e w' ⟨rfl, ⟨nd, rfl⟩⟩; (try first | exact ⟨rfl, _, World.drewN_drewN _ _ _⟩ | exact ⟨rfl, _, Eq.trans (World.drewN_drewN _ _ _) (congrArg (World.drewN _) (Nat.add_assoc _ _ _))⟩)) | (go_at_call 60; (with_reducible refine (spec_l6Rank.calls _ _ l1 x5_1 t272 _ ?side1 ?side2 A7.out).mono ?_); (case side1 => repeat (first | exact HR1.out | (with_reducible refine Kd.C_alloc ?_ _) | (with_reducible refine Kd.C_drewN ?_ _) | (with_reducible refine Kd.C_drew ?_))); (case side2 => exact HC1.out); rintro e w' ⟨rfl, ⟨nd, rfl⟩⟩; (try first | exact ⟨rfl, _, World.drewN_drewN _ _ _⟩ | exact ⟨rfl, _, Eq.trans (World.drewN_drewN _ _ _) (congrArg (World.drewN _) (Nat.add_assoc _ _ _))⟩)))
            repeat (go_quiet (first | (go_at_call 60; (with_reducible refine (spec_l6Rank.calls _ _ l0 x5_1 t271 _ ?side1 ?side2 A6.out).mono ?_); (case side1 => repeat (first | exact HR0.out | (with_reducible refine Kd.C_alloc ?_ _) | (with_reducible refine Kd.C_drewN ?_ _) | (with_reducible refine Kd.C_drew ?_))); (case side2 => exact HC0.out); rintro e w' ⟨rfl, ⟨nd, rfl⟩⟩; (try first | exact ⟨rfl, _, World.drewN_drewN _ _ _⟩ | exact ⟨rfl, _, Eq.trans (World.drewN_drewN _ _ _) (congrArg (World.drewN _) (Nat.add_assoc _ _ _))⟩)) | (go_at_call 60; (with_reducible refine (spec_l6Rank.calls _ _ l1 x5_1 t272 _ ?side1 ?side2 A7.out).mono ?_); (case side1 => repeat (first | exact HR1.out | (with_reducible refine Kd.C_alloc ?_ _) | (with_reducible refine Kd.C_drewN ?_ _) | (with_reducible refine Kd.C_drew ?_))); (case side2 => exact HC1.out); rintro e w' ⟨rfl, ⟨nd, rfl⟩⟩; (try first | exact ⟨rfl, _, World.drewN_drewN _ _ _⟩ | exact ⟨rfl, _, Eq.trans (World.drewN_drewN _ _ _) (congrArg (World.drewN _) (Nat.add_assoc _ _ _))⟩))); go_upto_region 6 with (first | (go_at_call 60; (with_reducible refine (spec_l6Rank.calls _ _ l0 x5_1 t271 _ ?side1 ?side2 A6.out).mono ?_); (case side1 => repeat (first | exact HR0.out | (with_reducible refine Kd.C_alloc ?_ _) | (with_reducible refine Kd.C_drewN ?_ _) | (with_reducible refine Kd.C_drew ?_))); (case side2 => exact HC0.out); rintro e w' ⟨rfl, ⟨nd, rfl⟩⟩; (try first | exact ⟨rfl, _, World.drewN_drewN _ _ _⟩ | exact ⟨rfl, _, Eq.trans (World.drewN_drewN _ _ _) (congrArg (World.drewN _) (Nat.add_assoc _ _ _))⟩)) | (go_at_call 60; (with_reducible refine (spec_l6Rank.calls _ _ l1 x5_1 t272 _ ?side1 ?side2 A7.out).mono ?_); (case side1 => repeat (first | exact HR1.out | (with_reducible refine Kd.C_alloc ?_ _) | (with_reducible refine Kd.C_drewN ?_ _) | (with_reducible refine Kd.C_drew ?_))); (case side2 => exact HC1.out); rintro e w' ⟨rfl, ⟨nd, rfl⟩⟩; (try first | exact ⟨rfl, _, World.drewN_drewN _ _ _⟩ | exact ⟨rfl, _, Eq.trans (World.drewN_drewN _ _ _) (congrArg (World.drewN _) (Nat.add_assoc _ _ _))⟩))))
            (try simp only [Act.put, List.setIfInBounds_toArray, List.set_cons_zero, List.set_cons_succ])
            go_cut [26] (fun v26 wc => ∃ (kq : Nat) (x26_7 : Bool), v26 = .bool x26_7 ∧ Aside0 (spec_l6Compare.j2 kq l0 l1 x5_1 t271 t272 x26_7 = some r) ∧ Aside0 (kq ≤ kj2) ∧ Drawn0 w wc)
            case first =>
              have H := HC8.out
              clear HC8
              by_cases c9 : t271 < t272
              · rw [if_pos c9] at H
                have c9b0 : decide (t271 < t272) = true := decide_eq_true c9
                clear c9
                (first | rw [c9b0] | (simp only [i64_w, i32_w]; rw [c9b0]) | skip)
                have H' := Aside0.mk H
                clear H
                go_wp2
                repeat (go_quiet (fail); try go_wp2)
                go_meet
                case rel => exact ⟨_, (true), (by first | rfl | (simp; done) | (simp [*]; done)), H', ⟨by have := HK1.out; have := HJ2.out; first | omega | exact Nat.le_refl _⟩, by repeat (first | exact Drawn0.refl _ | apply Drawn0.step)⟩
              · rw [if_neg c9] at H
                have c9b0 : decide (t271 < t272) = false := decide_eq_false c9
                clear c9
                (first | rw [c9b0] | (simp only [i64_w, i32_w]; rw [c9b0]) | skip)
                by_cases c10 : t271 = 0
                · rw [if_pos c10] at H
                  have c10b0 : (t271 == 0) = true := beq_iff_eq.mpr c10
                  have c10b1 : (t271 != 0) = false := bne_eq_false_iff_eq.mpr c10
                  clear c10
                  by_cases c11 : t272 = 0
                  · rw [if_pos c11] at H
                    have c11b0 : (t272 == 0) = true := beq_iff_eq.mpr c11
                    have c11b1 : (t272 != 0) = false := bne_eq_false_iff_eq.mpr c11
                    clear c11
                    by_cases c12 : 0 ≤ x5_1
                    · rw [if_pos c12] at H
                      have c12b0 : decide (0 ≤ x5_1) = true := decide_eq_true c12
                      clear c12
                      by_cases c13 : x5_1 < (l0.length : Int)
                      · rw [if_pos c13] at H
                        have c13b0 : decide (x5_1 < (l0.length : Int)) = true := decide_eq_true c13
                        clear c13
                        by_cases c14 : x5_1 < (l1.length : Int)
                        · rw [if_pos c14] at H
                          have c14b0 : decide (x5_1 < (l1.length : Int)) = true := decide_eq_true c14
                          clear c14
                          by_cases c15 : (Op.bytesLess (((rd_T88 l0 x5_1).f0).toList) (((rd_T88 l1 x5_1).f0).toList)) = true
                          · rw [if_pos c15] at H
                            have c15b0 : (Op.bytesLess (((rd_T88 l0 x5_1).f0).toList) (((rd_T88 l1 x5_1).f0).toList)) = true := c15
                            clear c15
                            have H' := Aside0.mk H
                            clear H
                            have p273 : 0 ≤ (x5_1 : Int) := of_decide_eq_true (by first | (with_reducible assumption) | assumption)
                            have q273 : x5_1 < (l0.length : Int) := of_decide_eq_true (by first | (with_reducible assumption) | assumption)
                            obtain ⟨ad273, e273, hx273_0, hx273_1⟩ := at_T88 HR0.out x5_1 p273 q273
                            cases e273
                            replace p273 := eq_true p273
                            replace q273 := eq_true q273
                            have p274 : 0 ≤ (x5_1 : Int) := of_decide_eq_true (by first | (with_reducible assumption) | assumption)
                            have q274 : x5_1 < (l1.length : Int) := of_decide_eq_true (by first | (with_reducible assumption) | assumption)
                            obtain ⟨ad274, e274, hx274_0, hx274_1⟩ := at_T88 HR1.out x5_1 p274 q274
                            cases e274
                            replace p274 := eq_true p274
                            replace q274 := eq_true q274
                            go_wp2
                            repeat (go_quiet (fail); try go_wp2)
                            go_meet
                            case rel => exact ⟨_, (true), (by first | rfl | (simp; done) | (simp [*]; done)), H', ⟨by have := HK1.out; have := HJ2.out; first | omega | exact Nat.le_refl _⟩, by repeat (first | exact Drawn0.refl _ | apply Drawn0.step)⟩
                          · rw [if_neg c15] at H
                            have c15b0 : (Op.bytesLess (((rd_T88 l0 x5_1).f0).toList) (((rd_T88 l1 x5_1).f0).toList)) = false := by simpa using c15
                            clear c15
                            by_cases c16 : t271 = 2
                            · rw [if_pos c16] at H
                              have c16b0 : (t271 == 2) = true := beq_iff_eq.mpr c16
                              have c16b1 : (t271 != 2) = false := bne_eq_false_iff_eq.mpr c16
                              clear c16
                              by_cases c17 : t272 = 2
                              · rw [if_pos c17] at H
                                have c17b0 : (t272 == 2) = true := beq_iff_eq.mpr c17
                                have c17b1 : (t272 != 2) = false := bne_eq_false_iff_eq.mpr c17
                                clear c17
                                have H' := Aside0.mk H
                                clear H
                                have p273 : 0 ≤ (x5_1 : Int) := of_decide_eq_true (by first | (with_reducible assumption) | assumption)
                                have q273 : x5_1 < (l0.length : Int) := of_decide_eq_true (by first | (with_reducible assumption) | assumption)
                                obtain ⟨ad273, e273, hx273_0, hx273_1⟩ := at_T88 HR0.out x5_1 p273 q273
                                cases e273
                                replace p273 := eq_true p273
                                replace q273 := eq_true q273
                                have p274 : 0 ≤ (x5_1 : Int) := of_decide_eq_true (by first | (with_reducible assumption) | assumption)
                                have q274 : x5_1 < (l1.length : Int) := of_decide_eq_true (by first | (with_reducible assumption) | assumption)
                                obtain ⟨ad274, e274, hx274_0, hx274_1⟩ := at_T88 HR1.out x5_1 p274 q274
                                cases e274
                                replace p274 := eq_true p274
                                replace q274 := eq_true q274
                                have p275 : 0 ≤ (x5_1 : Int) := of_decide_eq_true (by first | (with_reducible assumption) | assumption)
                                have q275 : x5_1 < (l0.length : Int) := of_decide_eq_true (by first | (with_reducible assumption) | assumption)
                                obtain ⟨ad275, e275, hx275_0, hx275_1⟩ := at_T88 HR0.out x5_1 p275 q275
                                obtain rfl : ad273 = ad275 := (by injection e275)
                                replace p275 := eq_true p275
                                replace q275 := eq_true q275
                                have p276 : 0 ≤ (x5_1 : Int) := of_decide_eq_true (by first | (with_reducible assumption) | assumption)
                                have q276 : x5_1 < (l1.length : Int) := of_decide_eq_true (by first | (with_reducible assumption) | assumption)
                                obtain ⟨ad276, e276, hx276_0, hx276_1⟩ := at_T88 HR1.out x5_1 p276 q276
                                obtain rfl : ad274 = ad276 := (by injection e276)
                                replace p276 := eq_true p276
                                replace q276 := eq_true q276
                                go_wp2
                                repeat (go_quiet (fail); try go_wp2)
                                go_meet
                                case rel => exact ⟨_, (decide (((rd_T88 l0 x5_1).f1) < ((rd_T88 l1 x5_1).f1))), (by first | rfl | (simp; done) | (simp [*]; done)), H', ⟨by have := HK1.out; have := HJ2.out; first | omega | exact Nat.le_refl _⟩, by repeat (first | exact Drawn0.refl _ | apply Drawn0.step)⟩
                              · rw [if_neg c17] at H
                                have c17b0 : (t272 == 2) = false := beq_eq_false_iff_ne.mpr c17
                                have c17b1 : (t272 != 2) = true := bne_iff_ne.mpr c17
                                have H' := Aside0.mk H
                                clear H
                                have p273 : 0 ≤ (x5_1 : Int) := of_decide_eq_true (by first | (with_reducible assumption) | assumption)
                                have q273 : x5_1 < (l0.length : Int) := of_decide_eq_true (by first | (with_reducible assumption) | assumption)
                                obtain ⟨ad273, e273, hx273_0, hx273_1⟩ := at_T88 HR0.out x5_1 p273 q273
                                cases e273
                                replace p273 := eq_true p273
                                replace q273 := eq_true q273
                                have p274 : 0 ≤ (x5_1 : Int) := of_decide_eq_true (by first | (with_reducible assumption) | assumption)
                                have q274 : x5_1 < (l1.length : Int) := of_decide_eq_true (by first | (with_reducible assumption) | assumption)
                                obtain ⟨ad274, e274, hx274_0, hx274_1⟩ := at_T88 HR1.out x5_1 p274 q274
                                cases e274
                                replace p274 := eq_true p274
                                replace q274 := eq_true q274
                                go_wp2
                                repeat (go_quiet (fail); try go_wp2)
                                go_meet
                                case rel => exact ⟨_, (false), (by first | rfl | (simp; done) | (simp [*]; done)), H', ⟨by have := HK1.out; have := HJ2.out; first | omega | exact Nat.le_refl _⟩, by repeat (first | exact Drawn0.refl _ | apply Drawn0.step)⟩
                            · rw [if_neg c16] at H
                              have c16b0 : (t271 == 2) = false := beq_eq_false_iff_ne.mpr c16
                              have c16b1 : (t271 != 2) = true := bne_iff_ne.mpr c16
                              have H' := Aside0.mk H
                              clear H
                              have p273 : 0 ≤ (x5_1 : Int) := of_decide_eq_true (by first | (with_reducible assumption) | assumption)
                              have q273 : x5_1 < (l0.length : Int) := of_decide_eq_true (by first | (with_reducible assumption) | assumption)
                              obtain ⟨ad273, e273, hx273_0, hx273_1⟩ := at_T88 HR0.out x5_1 p273 q273
                              cases e273
                              replace p273 := eq_true p273
                              replace q273 := eq_true q273
                              have p274 : 0 ≤ (x5_1 : Int) := of_decide_eq_true (by first | (with_reducible assumption) | assumption)
                              have q274 : x5_1 < (l1.length : Int) := of_decide_eq_true (by first | (with_reducible assumption) | assumption)
                              obtain ⟨ad274, e274, hx274_0, hx274_1⟩ := at_T88 HR1.out x5_1 p274 q274
                              cases e274
                              replace p274 := eq_true p274
                              replace q274 := eq_true q274
                              go_wp2
                              repeat (go_quiet (fail); try go_wp2)
                              go_meet
                              case rel => exact ⟨_, (false), (by first | rfl | (simp; done) | (simp [*]; done)), H', ⟨by have := HK1.out; have := HJ2.out; first | omega | exact Nat.le_refl _⟩, by repeat (first | exact Drawn0.refl _ | apply Drawn0.step)⟩
                        · rw [if_neg c14] at H
                          exact absurd H (by simp)
                      · rw [if_neg c13] at H
                        exact absurd H (by simp)
                    · rw [if_neg c12] at H
                      exact absurd H (by simp)
                  · rw [if_neg c11] at H
                    have c11b0 : (t272 == 0) = false := beq_eq_false_iff_ne.mpr c11
                    have c11b1 : (t272 != 0) = true := bne_iff_ne.mpr c11
                    by_cases c18 : t271 = 2
                    · rw [if_pos c18] at H
                      have c18b0 : (t271 == 2) = true := beq_iff_eq.mpr c18
                      have c18b1 : (t271 != 2) = false := bne_eq_false_iff_eq.mpr c18
                      clear c18
                      by_cases c19 : t272 = 2
                      · rw [if_pos c19] at H
                        have c19b0 : (t272 == 2) = true := beq_iff_eq.mpr c19
                        have c19b1 : (t272 != 2) = false := bne_eq_false_iff_eq.mpr c19
                        clear c19
                        by_cases c20 : 0 ≤ x5_1
                        · rw [if_pos c20] at H
                          have c20b0 : decide (0 ≤ x5_1) = true := decide_eq_true c20
                          clear c20
                          by_cases c21 : x5_1 < (l0.length : Int)
                          · rw [if_pos c21] at H
                            have c21b0 : decide (x5_1 < (l0.length : Int)) = true := decide_eq_true c21
                            clear c21
                            by_cases c22 : x5_1 < (l1.length : Int)
                            · rw [if_pos c22] at H
                              have c22b0 : decide (x5_1 < (l1.length : Int)) = true := decide_eq_true c22
                              clear c22
                              have H' := Aside0.mk H
                              clear H
                              have p277 : 0 ≤ (x5_1 : Int) := of_decide_eq_true (by first | (with_reducible assumption) | assumption)
                              have q277 : x5_1 < (l0.length : Int) := of_decide_eq_true (by first | (with_reducible assumption) | assumption)
                              obtain ⟨ad277, e277, hx277_0, hx277_1⟩ := at_T88 HR0.out x5_1 p277 q277
                              cases e277
                              replace p277 := eq_true p277
                              replace q277 := eq_true q277
                              have p278 : 0 ≤ (x5_1 : Int) := of_decide_eq_true (by first | (with_reducible assumption) | assumption)
                              have q278 : x5_1 < (l1.length : Int) := of_decide_eq_true (by first | (with_reducible assumption) | assumption)
                              obtain ⟨ad278, e278, hx278_0, hx278_1⟩ := at_T88 HR1.out x5_1 p278 q278
                              cases e278
                              replace p278 := eq_true p278
                              replace q278 := eq_true q278
                              go_wp2
                              repeat (go_quiet (fail); try go_wp2)
                              go_meet
                              case rel => exact ⟨_, (decide (((rd_T88 l0 x5_1).f1) < ((rd_T88 l1 x5_1).f1))), (by first | rfl | (simp; done) | (simp [*]; done)), H', ⟨by have := HK1.out; have := HJ2.out; first | omega | exact Nat.le_refl _⟩, by repeat (first | exact Drawn0.refl _ | apply Drawn0.step)⟩
                            · rw [if_neg c22] at H
                              exact absurd H (by simp)
                          · rw [if_neg c21] at H
                            exact absurd H (by simp)
                        · rw [if_neg c20] at H
                          exact absurd H (by simp)
                      · rw [if_neg c19] at H
                        have c19b0 : (t272 == 2) = false := beq_eq_false_iff_ne.mpr c19
                        have c19b1 : (t272 != 2) = true := bne_iff_ne.mpr c19
                        have H' := Aside0.mk H
                        clear H
                        go_wp2
                        repeat (go_quiet (fail); try go_wp2)
                        go_meet
                        case rel => exact ⟨_, (false), (by first | rfl | (simp; done) | (simp [*]; done)), H', ⟨by have := HK1.out; have := HJ2.out; first | omega | exact Nat.le_refl _⟩, by repeat (first | exact Drawn0.refl _ | apply Drawn0.step)⟩
                    · rw [if_neg c18] at H
                      have c18b0 : (t271 == 2) = false := beq_eq_false_iff_ne.mpr c18
                      have c18b1 : (t271 != 2) = true := bne_iff_ne.mpr c18
                      have H' := Aside0.mk H
                      clear H
                      go_wp2
                      repeat (go_quiet (fail); try go_wp2)
                      go_meet
                      case rel => exact ⟨_, (false), (by first | rfl | (simp; done) | (simp [*]; done)), H', ⟨by have := HK1.out; have := HJ2.out; first | omega | exact Nat.le_refl _⟩, by repeat (first | exact Drawn0.refl _ | apply Drawn0.step)⟩
                · rw [if_neg c10] at H
                  have c10b0 : (t271 == 0) = false := beq_eq_false_iff_ne.mpr c10
                  have c10b1 : (t271 != 0) = true := bne_iff_ne.mpr c10
                  by_cases c23 : t271 = 2
                  · rw [if_pos c23] at H
                    have c23b0 : (t271 == 2) = true := beq_iff_eq.mpr c23
                    have c23b1 : (t271 != 2) = false := bne_eq_false_iff_eq.mpr c23
                    clear c23
                    by_cases c24 : t272 = 2
                    · rw [if_pos c24] at H
                      have c24b0 : (t272 == 2) = true := beq_iff_eq.mpr c24
                      have c24b1 : (t272 != 2) = false := bne_eq_false_iff_eq.mpr c24
                      clear c24
                      by_cases c25 : 0 ≤ x5_1
                      · rw [if_pos c25] at H
                        have c25b0 : decide (0 ≤ x5_1) = true := decide_eq_true c25
                        clear c25
                        by_cases c26 : x5_1 < (l0.length : Int)
                        · rw [if_pos c26] at H
                          have c26b0 : decide (x5_1 < (l0.length : Int)) = true := decide_eq_true c26
                          clear c26
                          by_cases c27 : x5_1 < (l1.length : Int)
                          · rw [if_pos c27] at H
                            have c27b0 : decide (x5_1 < (l1.length : Int)) = true := decide_eq_true c27
                            clear c27
                            have H' := Aside0.mk H
                            clear H
                            have p279 : 0 ≤ (x5_1 : Int) := of_decide_eq_true (by first | (with_reducible assumption) | assumption)
                            have q279 : x5_1 < (l0.length : Int) := of_decide_eq_true (by first | (with_reducible assumption) | assumption)
                            obtain ⟨ad279, e279, hx279_0, hx279_1⟩ := at_T88 HR0.out x5_1 p279 q279
                            cases e279
                            replace p279 := eq_true p279
                            replace q279 := eq_true q279
                            have p280 : 0 ≤ (x5_1 : Int) := of_decide_eq_true (by first | (with_reducible assumption) | assumption)
                            have q280 : x5_1 < (l1.length : Int) := of_decide_eq_true (by first | (with_reducible assumption) | assumption)
                            obtain ⟨ad280, e280, hx280_0, hx280_1⟩ := at_T88 HR1.out x5_1 p280 q280
                            cases e280
                            replace p280 := eq_true p280
                            replace q280 := eq_true q280
                            go_wp2
                            repeat (go_quiet (fail); try go_wp2)
                            go_meet
                            case rel => exact ⟨_, (decide (((rd_T88 l0 x5_1).f1) < ((rd_T88 l1 x5_1).f1))), (by first | rfl | (simp; done) | (simp [*]; done)), H', ⟨by have := HK1.out; have := HJ2.out; first | omega | exact Nat.le_refl _⟩, by repeat (first | exact Drawn0.refl _ | apply Drawn0.step)⟩
                          · rw [if_neg c27] at H
                            exact absurd H (by simp)
                        · rw [if_neg c26] at H
                          exact absurd H (by simp)
                      · rw [if_neg c25] at H
                        exact absurd H (by simp)
                    · rw [if_neg c24] at H
                      have c24b0 : (t272 == 2) = false := beq_eq_false_iff_ne.mpr c24
                      have c24b1 : (t272 != 2) = true := bne_iff_ne.mpr c24
                      have H' := Aside0.mk H
                      clear H
                      go_wp2
                      repeat (go_quiet (fail); try go_wp2)
                      go_meet
                      case rel => exact ⟨_, (false), (by first | rfl | (simp; done) | (simp [*]; done)), H', ⟨by have := HK1.out; have := HJ2.out; first | omega | exact Nat.le_refl _⟩, by repeat (first | exact Drawn0.refl _ | apply Drawn0.step)⟩
                  · rw [if_neg c23] at H
                    have c23b0 : (t271 == 2) = false := beq_eq_false_iff_ne.mpr c23
                    have c23b1 : (t271 != 2) = true := bne_iff_ne.mpr c23
                    have H' := Aside0.mk H
                    clear H
                    go_wp2
                    repeat (go_quiet (fail); try go_wp2)
                    go_meet
                    case rel => exact ⟨_, (false), (by first | rfl | (simp; done) | (simp [*]; done)), H', ⟨by have := HK1.out; have := HJ2.out; first | omega | exact Nat.le_refl _⟩, by repeat (first | exact Drawn0.refl _ | apply Drawn0.step)⟩
            case rest =>
              clear HC8
              try clear c1
              try clear c2
              try clear p2
              try clear q2
              try clear hx2
              try clear c4
              try clear c4b0
              try clear c5
              try clear c9
              try clear c9b0
              try clear c10
              try clear c10b0
              try clear c10b1
              try clear c11
              try clear c11b0
              try clear c11b1
              try clear c12
              try clear c12b0
              try clear c13
              try clear c13b0
              try clear c14
              try clear c14b0
              try clear c15
              try clear c15b0
              try clear c16
              try clear c16b0
              try clear c16b1
              try clear c17
              try clear c17b0
              try clear c17b1
              try clear c18
              try clear c18b0
              try clear c18b1
              try clear c19
              try clear c19b0
              try clear c19b1
              try clear c20
              try clear c20b0
              try clear c21
              try clear c21b0
              try clear c22
              try clear c22b0
              try clear c23
              try clear c23b0
              try clear c23b1
              try clear c24
              try clear c24b0
              try clear c24b1
              try clear c25
              try clear c25b0
              try clear c26
              try clear c26b0
              try clear c27
              try clear c27b0
              try clear p27
              try clear q27
              try clear hx27
              try clear hx273_0
              try clear hx273_1
              try clear hx274_0
              try clear hx274_1
              try clear hx275_0
              try clear hx275_1
              try clear hx276_0
              try clear hx276_1
              try clear hx277_0
              try clear hx277_1
              try clear hx278_0
              try clear hx278_1
              try clear hx279_0
              try clear hx279_1
              try clear hx280_0
              try clear hx280_1
              try clear p2
              try clear p273
              try clear p274
              try clear p275
              try clear p276
              try clear p277
              try clear p278
              try clear p279
              try clear p280
              try clear q273
              try clear q274
              try clear q275
              try clear q276
              try clear q277
              try clear q278
              try clear q279
              try clear q280
              obtain ⟨kq, x26_7, rfl, HA, HJ7, ⟨mc7, rfl⟩⟩ := hcut
              cases kq with
              | zero => exact absurd HA.out (by simp [spec_l6Compare.j2])
              | succ kj7 =>
                have H := HA.out
                clear HA
                simp only [spec_l6Compare.j2] at H
                by_cases c28 : x26_7 = true
                · subst c28
                  have H1 : (some (-1)) = some r := by rw [if_pos rfl] at H; exact H
                  clear H
                  have H := H1
                  clear H1
                  obtain rfl := Option.some.inj H
                  go_wp2
                  repeat (go_quiet (fail); try go_wp2)
                  go_ret
                  exact ⟨by first | rfl | (simp; done) | (simp [*]; done), by repeat (first | exact Drawn0.refl _ | apply Drawn0.step)⟩
                · replace c28 := Bool.eq_false_iff.mpr c28
                  subst c28
                  have H1 : (if t271 > t272 then (some 1) else (if t271 = 0 then (if 0 ≤ x5_1 then (if x5_1 < (l0.length : Int) then (if x5_1 < (l1.length : Int) then (if (Op.bytesLess (((rd_T88 l1 x5_1).f0).toList) (((rd_T88 l0 x5_1).f0).toList)) = true then (some 1) else (if t271 = 2 then (if ((rd_T88 l0 x5_1).f1) > ((rd_T88 l1 x5_1).f1) then (some 1) else (spec_l6Compare.l0 kj7 l0 l1 (wrap64 (x5_1 + 1)))) else (spec_l6Compare.l0 kj7 l0 l1 (wrap64 (x5_1 + 1))))) else (none)) else (none)) else (none)) else (if t271 = 2 then (if 0 ≤ x5_1 then (if x5_1 < (l0.length : Int) then (if x5_1 < (l1.length : Int) then (if ((rd_T88 l0 x5_1).f1) > ((rd_T88 l1 x5_1).f1) then (some 1) else (spec_l6Compare.l0 kj7 l0 l1 (wrap64 (x5_1 + 1)))) else (none)) else (none)) else (none)) else (spec_l6Compare.l0 kj7 l0 l1 (wrap64 (x5_1 + 1)))))) = some r := by rw [if_neg (show ¬ (false = true) by decide)] at H; exact H
                  clear H
                  have H := H1
                  clear H1
                  by_cases c29 : t271 > t272
                  · rw [if_pos c29] at H
                    have c29b0 : decide (t272 < t271) = true := decide_eq_true c29
                    clear c29
                    obtain rfl := Option.some.inj H
                    go_wp2
                    repeat (go_quiet (fail); try go_wp2)
                    go_ret
                    exact ⟨by first | rfl | (simp; done) | (simp [*]; done), by repeat (first | exact Drawn0.refl _ | apply Drawn0.step)⟩
                  · rw [if_neg c29] at H
                    have c29b0 : decide (t272 < t271) = false := decide_eq_false c29
                    clear c29
                    by_cases c30 : t271 = 0
                    · rw [if_pos c30] at H
                      have c30b0 : (t271 == 0) = true := beq_iff_eq.mpr c30
                      have c30b1 : (t271 != 0) = false := bne_eq_false_iff_eq.mpr c30
                      clear c30
                      by_cases c31 : 0 ≤ x5_1
                      · rw [if_pos c31] at H
                        have c31b0 : decide (0 ≤ x5_1) = true := decide_eq_true c31
                        clear c31
                        by_cases c32 : x5_1 < (l0.length : Int)
                        · rw [if_pos c32] at H
                          have c32b0 : decide (x5_1 < (l0.length : Int)) = true := decide_eq_true c32
                          clear c32
                          by_cases c33 : x5_1 < (l1.length : Int)
                          · rw [if_pos c33] at H
                            have c33b0 : decide (x5_1 < (l1.length : Int)) = true := decide_eq_true c33
                            clear c33
                            by_cases c34 : (Op.bytesLess (((rd_T88 l1 x5_1).f0).toList) (((rd_T88 l0 x5_1).f0).toList)) = true
                            · rw [if_pos c34] at H
                              have c34b0 : (Op.bytesLess (((rd_T88 l1 x5_1).f0).toList) (((rd_T88 l0 x5_1).f0).toList)) = true := c34
                              clear c34
                              obtain rfl := Option.some.inj H
                              have p281 : 0 ≤ (x5_1 : Int) := of_decide_eq_true (by first | (with_reducible assumption) | assumption)
                              have q281 : x5_1 < (l0.length : Int) := of_decide_eq_true (by first | (with_reducible assumption) | assumption)
                              obtain ⟨ad281, e281, hx281_0, hx281_1⟩ := at_T88 HR0.out x5_1 p281 q281
                              cases e281
                              replace p281 := eq_true p281
                              replace q281 := eq_true q281
                              have p282 : 0 ≤ (x5_1 : Int) := of_decide_eq_true (by first | (with_reducible assumption) | assumption)
                              have q282 : x5_1 < (l1.length : Int) := of_decide_eq_true (by first | (with_reducible assumption) | assumption)
                              obtain ⟨ad282, e282, hx282_0, hx282_1⟩ := at_T88 HR1.out x5_1 p282 q282
                              cases e282
                              replace p282 := eq_true p282
                              replace q282 := eq_true q282
                              go_wp2
                              repeat (go_quiet (fail); try go_wp2)
                              go_ret
                              exact ⟨by first | rfl | (simp; done) | (simp [*]; done), by repeat (first | exact Drawn0.refl _ | apply Drawn0.step)⟩
                            · rw [if_neg c34] at H
                              have c34b0 : (Op.bytesLess (((rd_T88 l1 x5_1).f0).toList) (((rd_T88 l0 x5_1).f0).toList)) = false := by simpa using c34
                              clear c34
                              by_cases c35 : t271 = 2
                              · rw [if_pos c35] at H
                                have c35b0 : (t271 == 2) = true := beq_iff_eq.mpr c35
                                have c35b1 : (t271 != 2) = false := bne_eq_false_iff_eq.mpr c35
                                clear c35
                                by_cases c36 : ((rd_T88 l0 x5_1).f1) > ((rd_T88 l1 x5_1).f1)
                                · rw [if_pos c36] at H
                                  have c36b0 : decide (((rd_T88 l1 x5_1).f1) < ((rd_T88 l0 x5_1).f1)) = true := decide_eq_true c36
                                  clear c36
                                  obtain rfl := Option.some.inj H
                                  have p281 : 0 ≤ (x5_1 : Int) := of_decide_eq_true (by first | (with_reducible assumption) | assumption)
                                  have q281 : x5_1 < (l0.length : Int) := of_decide_eq_true (by first | (with_reducible assumption) | assumption)
                                  obtain ⟨ad281, e281, hx281_0, hx281_1⟩ := at_T88 HR0.out x5_1 p281 q281
                                  cases e281
                                  replace p281 := eq_true p281
                                  replace q281 := eq_true q281
                                  have p282 : 0 ≤ (x5_1 : Int) := of_decide_eq_true (by first | (with_reducible assumption) | assumption)
                                  have q282 : x5_1 < (l1.length : Int) := of_decide_eq_true (by first | (with_reducible assumption) | assumption)
                                  obtain ⟨ad282, e282, hx282_0, hx282_1⟩ := at_T88 HR1.out x5_1 p282 q282
                                  cases e282
                                  replace p282 := eq_true p282
                                  replace q282 := eq_true q282
                                  have p283 : 0 ≤ (x5_1 : Int) := of_decide_eq_true (by first | (with_reducible assumption) | assumption)
                                  have q283 : x5_1 < (l0.length : Int) := of_decide_eq_true (by first | (with_reducible assumption) | assumption)
                                  obtain ⟨ad283, e283, hx283_0, hx283_1⟩ := at_T88 HR0.out x5_1 p283 q283
                                  obtain rfl : ad281 = ad283 := (by injection e283)
                                  replace p283 := eq_true p283
                                  replace q283 := eq_true q283
                                  have p284 : 0 ≤ (x5_1 : Int) := of_decide_eq_true (by first | (with_reducible assumption) | assumption)
                                  have q284 : x5_1 < (l1.length : Int) := of_decide_eq_true (by first | (with_reducible assumption) | assumption)
                                  obtain ⟨ad284, e284, hx284_0, hx284_1⟩ := at_T88 HR1.out x5_1 p284 q284
                                  obtain rfl : ad282 = ad284 := (by injection e284)
                                  replace p284 := eq_true p284
                                  replace q284 := eq_true q284
                                  go_wp2
                                  repeat (go_quiet (fail); try go_wp2)
                                  go_ret
                                  exact ⟨by first | rfl | (simp; done) | (simp [*]; done), by repeat (first | exact Drawn0.refl _ | apply Drawn0.step)⟩
                                · rw [if_neg c36] at H
                                  have c36b0 : decide (((rd_T88 l1 x5_1).f1) < ((rd_T88 l0 x5_1).f1)) = false := decide_eq_false c36
                                  clear c36
                                  have H' := Aside0.mk H
                                  clear H
                                  have p281 : 0 ≤ (x5_1 : Int) := of_decide_eq_true (by first | (with_reducible assumption) | assumption)
                                  have q281 : x5_1 < (l0.length : Int) := of_decide_eq_true (by first | (with_reducible assumption) | assumption)
                                  obtain ⟨ad281, e281, hx281_0, hx281_1⟩ := at_T88 HR0.out x5_1 p281 q281
                                  cases e281
                                  replace p281 := eq_true p281
                                  replace q281 := eq_true q281
                                  have p282 : 0 ≤ (x5_1 : Int) := of_decide_eq_true (by first | (with_reducible assumption) | assumption)
                                  have q282 : x5_1 < (l1.length : Int) := of_decide_eq_true (by first | (with_reducible assumption) | assumption)
                                  obtain ⟨ad282, e282, hx282_0, hx282_1⟩ := at_T88 HR1.out x5_1 p282 q282
                                  cases e282
                                  replace p282 := eq_true p282
                                  replace q282 := eq_true q282
                                  have p283 : 0 ≤ (x5_1 : Int) := of_decide_eq_true (by first | (with_reducible assumption) | assumption)
                                  have q283 : x5_1 < (l0.length : Int) := of_decide_eq_true (by first | (with_reducible assumption) | assumption)
                                  obtain ⟨ad283, e283, hx283_0, hx283_1⟩ := at_T88 HR0.out x5_1 p283 q283
                                  obtain rfl : ad281 = ad283 := (by injection e283)
                                  replace p283 := eq_true p283
                                  replace q283 := eq_true q283
                                  have p284 : 0 ≤ (x5_1 : Int) := of_decide_eq_true (by first | (with_reducible assumption) | assumption)
                                  have q284 : x5_1 < (l1.length : Int) := of_decide_eq_true (by first | (with_reducible assumption) | assumption)
                                  obtain ⟨ad284, e284, hx284_0, hx284_1⟩ := at_T88 HR1.out x5_1 p284 q284
                                  obtain rfl : ad282 = ad284 := (by injection e284)
                                  replace p284 := eq_true p284
                                  replace q284 := eq_true q284
                                  go_wp2
                                  repeat (go_quiet (fail); try go_wp2)
                                  go_roundg kj7
                                  case measure => have := HK1.out; have := HJ2.out; have := HJ7.out; omega
                                  case rel => exact ⟨(wrap64 (x5_1 + 1)), (by first | rfl | (simp; done) | (simp [*]; done)), H', ⟨by have := HK1.out; have := HJ2.out; have := HJ7.out; omega⟩, by repeat (first | exact Drawn0.refl _ | apply Drawn0.step)⟩
                              · rw [if_neg c35] at H
                                have c35b0 : (t271 == 2) = false := beq_eq_false_iff_ne.mpr c35
                                have c35b1 : (t271 != 2) = true := bne_iff_ne.mpr c35
                                have H' := Aside0.mk H
                                clear H
                                have p281 : 0 ≤ (x5_1 : Int) := of_decide_eq_true (by first | (with_reducible assumption) | assumption)
                                have q281 : x5_1 < (l0.length : Int) := of_decide_eq_true (by first | (with_reducible assumption) | assumption)
                                obtain ⟨ad281, e281, hx281_0, hx281_1⟩ := at_T88 HR0.out x5_1 p281 q281
                                cases e281
                                replace p281 := eq_true p281
                                replace q281 := eq_true q281
                                have p282 : 0 ≤ (x5_1 : Int) := of_decide_eq_true (by first | (with_reducible assumption) | assumption)
                                have q282 : x5_1 < (l1.length : Int) := of_decide_eq_true (by first | (with_reducible assumption) | assumption)
                                obtain ⟨ad282, e282, hx282_0, hx282_1⟩ := at_T88 HR1.out x5_1 p282 q282
                                cases e282
                                replace p282 := eq_true p282
                                replace q282 := eq_true q282
                                go_wp2
                                repeat (go_quiet (fail); try go_wp2)
                                go_roundg kj7
                                case measure => have := HK1.out; have := HJ2.out; have := HJ7.out; omega
                                case rel => exact ⟨(wrap64 (x5_1 + 1)), (by first | rfl | (simp; done) | (simp [*]; done)), H', ⟨by have := HK1.out; have := HJ2.out; have := HJ7.out; omega⟩, by repeat (first | exact Drawn0.refl _ | apply Drawn0.step)⟩
                          · rw [if_neg c33] at H
                            exact absurd H (by simp)
                        · rw [if_neg c32] at H
                          exact absurd H (by simp)
                      · rw [if_neg c31] at H
                        exact absurd H (by simp)
                    · rw [if_neg c30] at H
                      have c30b0 : (t271 == 0) = false := beq_eq_false_iff_ne.mpr c30
                      have c30b1 : (t271 != 0) = true := bne_iff_ne.mpr c30
                      by_cases c37 : t271 = 2
                      · rw [if_pos c37] at H
                        have c37b0 : (t271 == 2) = true := beq_iff_eq.mpr c37
                        have c37b1 : (t271 != 2) = false := bne_eq_false_iff_eq.mpr c37
                        clear c37
                        by_cases c38 : 0 ≤ x5_1
                        · rw [if_pos c38] at H
                          have c38b0 : decide (0 ≤ x5_1) = true := decide_eq_true c38
                          clear c38
                          by_cases c39 : x5_1 < (l0.length : Int)
                          · rw [if_pos c39] at H
                            have c39b0 : decide (x5_1 < (l0.length : Int)) = true := decide_eq_true c39
                            clear c39
                            by_cases c40 : x5_1 < (l1.length : Int)
                            · rw [if_pos c40] at H
                              have c40b0 : decide (x5_1 < (l1.length : Int)) = true := decide_eq_true c40
                              clear c40
                              by_cases c41 : ((rd_T88 l0 x5_1).f1) > ((rd_T88 l1 x5_1).f1)
                              · rw [if_pos c41] at H
                                have c41b0 : decide (((rd_T88 l1 x5_1).f1) < ((rd_T88 l0 x5_1).f1)) = true := decide_eq_true c41
                                clear c41
                                obtain rfl := Option.some.inj H
                                have p285 : 0 ≤ (x5_1 : Int) := of_decide_eq_true (by first | (with_reducible assumption) | assumption)
                                have q285 : x5_1 < (l0.length : Int) := of_decide_eq_true (by first | (with_reducible assumption) | assumption)
                                obtain ⟨ad285, e285, hx285_0, hx285_1⟩ := at_T88 HR0.out x5_1 p285 q285
                                cases e285
                                replace p285 := eq_true p285
                                replace q285 := eq_true q285
                                have p286 : 0 ≤ (x5_1 : Int) := of_decide_eq_true (by first | (with_reducible assumption) | assumption)
                                have q286 : x5_1 < (l1.length : Int) := of_decide_eq_true (by first | (with_reducible assumption) | assumption)
                                obtain ⟨ad286, e286, hx286_0, hx286_1⟩ := at_T88 HR1.out x5_1 p286 q286
                                cases e286
                                replace p286 := eq_true p286
                                replace q286 := eq_true q286
                                go_wp2
                                repeat (go_quiet (fail); try go_wp2)
                                go_ret
                                exact ⟨by first | rfl | (simp; done) | (simp [*]; done), by repeat (first | exact Drawn0.refl _ | apply Drawn0.step)⟩
                              · rw [if_neg c41] at H
                                have c41b0 : decide (((rd_T88 l1 x5_1).f1) < ((rd_T88 l0 x5_1).f1)) = false := decide_eq_false c41
                                clear c41
                                have H' := Aside0.mk H
                                clear H
                                have p285 : 0 ≤ (x5_1 : Int) := of_decide_eq_true (by first | (with_reducible assumption) | assumption)
                                have q285 : x5_1 < (l0.length : Int) := of_decide_eq_true (by first | (with_reducible assumption) | assumption)
                                obtain ⟨ad285, e285, hx285_0, hx285_1⟩ := at_T88 HR0.out x5_1 p285 q285
                                cases e285
                                replace p285 := eq_true p285
                                replace q285 := eq_true q285
                                have p286 : 0 ≤ (x5_1 : Int) := of_decide_eq_true (by first | (with_reducible assumption) | assumption)
                                have q286 : x5_1 < (l1.length : Int) := of_decide_eq_true (by first | (with_reducible assumption) | assumption)
                                obtain ⟨ad286, e286, hx286_0, hx286_1⟩ := at_T88 HR1.out x5_1 p286 q286
                                cases e286
                                replace p286 := eq_true p286
                                replace q286 := eq_true q286
                                go_wp2
                                repeat (go_quiet (fail); try go_wp2)
                                go_roundg kj7
                                case measure => have := HK1.out; have := HJ2.out; have := HJ7.out; omega
                                case rel => exact ⟨(wrap64 (x5_1 + 1)), (by first | rfl | (simp; done) | (simp [*]; done)), H', ⟨by have := HK1.out; have := HJ2.out; have := HJ7.out; omega⟩, by repeat (first | exact Drawn0.refl _ | apply Drawn0.step)⟩
                            · rw [if_neg c40] at H
                              exact absurd H (by simp)
                          · rw [if_neg c39] at H
                            exact absurd H (by simp)
                        · rw [if_neg c38] at H
                          exact absurd H (by simp)
                      · rw [if_neg c37] at H
                        have c37b0 : (t271 == 2) = false := beq_eq_false_iff_ne.mpr c37
                        have c37b1 : (t271 != 2) = true := bne_iff_ne.mpr c37
                        have H' := Aside0.mk H
                        clear H
                        go_wp2
                        repeat (go_quiet (fail); try go_wp2)
                        go_roundg kj7
                        case measure => have := HK1.out; have := HJ2.out; have := HJ7.out; omega
                        case rel => exact ⟨(wrap64 (x5_1 + 1)), (by first | rfl | (simp; done) | (simp [*]; done)), H', ⟨by have := HK1.out; have := HJ2.out; have := HJ7.out; omega⟩, by repeat (first | exact Drawn0.refl _ | apply Drawn0.step)⟩
          · replace c5 := Bool.eq_false_iff.mpr c5
            subst c5
            have H1 : (some 0) = some r := by rw [if_neg (show ¬ (false = true) by decide)] at H; exact H
            clear H
            have H := H1
            clear H1
            obtain rfl := Option.some.inj H
            go_wp2
            repeat (go_quiet (fail); try go_wp2)
            go_ret
            exact ⟨by first | rfl | (simp; done) | (simp [*]; done), by repeat (first | exact Drawn0.refl _ | apply Drawn0.step)⟩
end Go.Proofs.YthfohhpjanoimaaDoor.P
end

section
namespace Go.Proofs.YthfohhpjanoimaaDoor.P
open Go.RowKit Go.Proofs.YthfohhpjanoimaaDoorW.PrintWords Go.Proofs.YthfohhpjanoimaaDoorW.PrintLast Go.Proofs.YthfohhpjanoimaaDoorW.PrintMore Go.Proofs.YthfohhpjanoimaaDoorM
attribute [local go_sem] max2_int min2_int max_two min_two max_three min_three max_four min_four   -- for this text's walks alone
set_option linter.unusedVariables false
set_option linter.unusedSimpArgs false
attribute [local go_sem high] eqA88
def spec_l6SamePart.f (l0 : List (S88)) (l1 : List (S88)) (a2 : Int) : Option (Bool) := if a2 ≥ (l0.length : Int) then (some (decide (a2 ≥ (l1.length : Int)))) else (if a2 ≥ (l1.length : Int) then (some false) else (if 0 ≤ a2 then (if a2 < (l0.length : Int) then (if a2 < (l1.length : Int) then (some ((((rd_T88 l0 a2).f0).toList) == (((rd_T88 l1 a2).f0).toList) && (((rd_T88 l0 a2).f1) == ((rd_T88 l1 a2).f1)))) else (none)) else (none)) else (none)))
set_option maxHeartbeats 8000000 in
set_option maxRecDepth 100000 in
theorem spec_l6SamePart.calls (A0 : Option Addr) (c0 : Nat) (l0 : List (S88)) (A1 : Option Addr) (c1 : Nat) (l1 : List (S88)) (a2 : Int) (r : Bool) (w : World) (hr0 : Kd.C k88 w A0 l0.length l0) (hc0 : l0.length ≤ c0) (hr1 : Kd.C k88 w A1 l1.length l1) (hc1 : l1.length ≤ c1) (h : spec_l6SamePart.f l0 l1 a2 = some r) :
    Calls Tryd.prog 44 #[.slice A0 l0.length c0, .slice A1 l1.length c1, .int .i64 a2] w fun e w' => e = .returned (.bool r) ∧ Drawn0 w w' := by
  have hu88 := Tryd.underlying88
  have HR0 := Aside0.mk hr0
  have HC0 := Aside0.mk hc0
  clear hr0 hc0
  have HR1 := Aside0.mk hr1
  have HC1 := Aside0.mk hc1
  clear hr1 hc1
  have H : (if a2 ≥ (l0.length : Int) then (some (decide (a2 ≥ (l1.length : Int)))) else (if a2 ≥ (l1.length : Int) then (some false) else (if 0 ≤ a2 then (if a2 < (l0.length : Int) then (if a2 < (l1.length : Int) then (some ((((rd_T88 l0 a2).f0).toList) == (((rd_T88 l1 a2).f0).toList) && (((rd_T88 l0 a2).f1) == ((rd_T88 l1 a2).f1)))) else (none)) else (none)) else (none)))) = some r := h
  clear h
  by_cases c4 : a2 ≥ (l0.length : Int)
  · rw [if_pos c4] at H
    have c4b0 : decide ((l0.length : Int) ≤ a2) = true := decide_eq_true c4
    clear c4
    obtain rfl := Option.some.inj H
    go_enter Tryd.func44, Tryd.ntmps44
    go_wp2
    repeat (go_quiet (fail); try go_wp2)
    go_ret
    exact ⟨by first | rfl | (simp; done) | (simp [*]; done), by repeat (first | exact Drawn0.refl _ | apply Drawn0.step)⟩
  · rw [if_neg c4] at H
    have c4b0 : decide ((l0.length : Int) ≤ a2) = false := decide_eq_false c4
    clear c4
    by_cases c5 : a2 ≥ (l1.length : Int)
    · rw [if_pos c5] at H
      have c5b0 : decide ((l1.length : Int) ≤ a2) = true := decide_eq_true c5
      clear c5
      obtain rfl := Option.some.inj H
      go_enter Tryd.func44, Tryd.ntmps44
      go_wp2
      repeat (go_quiet (fail); try go_wp2)
      go_ret
      exact ⟨by first | rfl | (simp; done) | (simp [*]; done), by repeat (first | exact Drawn0.refl _ | apply Drawn0.step)⟩
    · rw [if_neg c5] at H
      have c5b0 : decide ((l1.length : Int) ≤ a2) = false := decide_eq_false c5
      clear c5
      by_cases c6 : 0 ≤ a2
      · rw [if_pos c6] at H
        have c6b0 : decide (0 ≤ a2) = true := decide_eq_true c6
        clear c6
        by_cases c7 : a2 < (l0.length : Int)
        · rw [if_pos c7] at H
          have c7b0 : decide (a2 < (l0.length : Int)) = true := decide_eq_true c7
          clear c7
          by_cases c8 : a2 < (l1.length : Int)
          · rw [if_pos c8] at H
            have c8b0 : decide (a2 < (l1.length : Int)) = true := decide_eq_true c8
            clear c8
            obtain rfl := Option.some.inj H
            have p287 : 0 ≤ (a2 : Int) := of_decide_eq_true (by first | (with_reducible assumption) | assumption)
            have q287 : a2 < (l0.length : Int) := of_decide_eq_true (by first | (with_reducible assumption) | assumption)
            obtain ⟨ad287, e287, hx287_0, hx287_1⟩ := at_T88 HR0.out a2 p287 q287
            cases e287
            replace p287 := eq_true p287
            replace q287 := eq_true q287
            have p288 : 0 ≤ (a2 : Int) := of_decide_eq_true (by first | (with_reducible assumption) | assumption)
            have q288 : a2 < (l1.length : Int) := of_decide_eq_true (by first | (with_reducible assumption) | assumption)
            obtain ⟨ad288, e288, hx288_0, hx288_1⟩ := at_T88 HR1.out a2 p288 q288
            cases e288
            replace p288 := eq_true p288
            replace q288 := eq_true q288
            go_enter Tryd.func44, Tryd.ntmps44
            go_wp2
            repeat (go_quiet (fail); try go_wp2)
            go_ret
            exact ⟨by first | rfl | (simp; done) | (simp [*]; done), by repeat (first | exact Drawn0.refl _ | apply Drawn0.step)⟩
          · rw [if_neg c8] at H
            exact absurd H (by simp)
        · rw [if_neg c7] at H
          exact absurd H (by simp)
      · rw [if_neg c6] at H
        exact absurd H (by simp)
def spec_l6Fits.f (k : Nat) (a0_0 : ByteArray) (a0_1 : ByteArray) (a1 : ByteArray) : Option (Bool) := if a0_0.toList = ([42] : List UInt8) then (some true) else ((spec_l6Parts.f k a1).bind fun bt290 => ((spec_l6Parts.f k a0_1).bind fun bt294 => ((spec_l6Compare.f k bt290.1 bt294.1).bind fun t298 => (if a0_0.toList = ([61] : List UInt8) then (some (t298 == 0)) else (if a0_0.toList = ([33, 61] : List UInt8) then (some (t298 != 0)) else (if a0_0.toList = ([62] : List UInt8) then (some (decide (t298 > 0))) else (if a0_0.toList = ([62, 61] : List UInt8) then (some (decide (t298 ≥ 0))) else (if a0_0.toList = ([60] : List UInt8) then (some (decide (t298 < 0))) else (if a0_0.toList = ([60, 61] : List UInt8) then (some (decide (t298 ≤ 0))) else (if a0_0.toList = ([94] : List UInt8) then (if t298 ≥ 0 then ((spec_l6SamePart.f bt290.1 bt294.1 0).bind fun t299 => (some t299)) else (some false)) else (if t298 ≥ 0 then ((spec_l6SamePart.f bt290.1 bt294.1 0).bind fun t300 => (if t300 = true then ((spec_l6SamePart.f bt290.1 bt294.1 1).bind fun t301 => (some t301)) else (some false))) else (some false))))))))))))
set_option maxHeartbeats 8000000 in
set_option maxRecDepth 100000 in
theorem spec_l6Fits.calls (k : Nat) (a0_0 : ByteArray) (a0_1 : ByteArray) (a1 : ByteArray) (r : Bool) (w : World) (h : spec_l6Fits.f k a0_0 a0_1 a1 = some r) :
    Calls Tryd.prog 29 #[.agg #[.string a0_0, .string a0_1], .string a1] w fun e w' => e = .returned (.bool r) ∧ Below w.heap.size w w' := by
  have hu38 := Tryd.underlying38
  have HB := Aside0.mk (Below.refl w.heap.size w)
  have H : (if a0_0.toList = ([42] : List UInt8) then (some true) else ((spec_l6Parts.f k a1).bind fun bt290 => ((spec_l6Parts.f k a0_1).bind fun bt294 => ((spec_l6Compare.f k bt290.1 bt294.1).bind fun t298 => (if a0_0.toList = ([61] : List UInt8) then (some (t298 == 0)) else (if a0_0.toList = ([33, 61] : List UInt8) then (some (t298 != 0)) else (if a0_0.toList = ([62] : List UInt8) then (some (decide (t298 > 0))) else (if a0_0.toList = ([62, 61] : List UInt8) then (some (decide (t298 ≥ 0))) else (if a0_0.toList = ([60] : List UInt8) then (some (decide (t298 < 0))) else (if a0_0.toList = ([60, 61] : List UInt8) then (some (decide (t298 ≤ 0))) else (if a0_0.toList = ([94] : List UInt8) then (if t298 ≥ 0 then ((spec_l6SamePart.f bt290.1 bt294.1 0).bind fun t299 => (some t299)) else (some false)) else (if t298 ≥ 0 then ((spec_l6SamePart.f bt290.1 bt294.1 0).bind fun t300 => (if t300 = true then ((spec_l6SamePart.f bt290.1 bt294.1 1).bind fun t301 => (some t301)) else (some false))) else (some false))))))))))))) = some r := h
  clear h
  by_cases c3 : a0_0.toList = ([42] : List UInt8)
  · rw [if_pos c3] at H
    have c3b0 : (a0_0.toList == ([42] : List UInt8)) = true := beq_iff_eq.mpr c3
    have c3b1 : (a0_0.toList != ([42] : List UInt8)) = false := bne_eq_false_iff_eq.mpr c3
    clear c3
    obtain rfl := Option.some.inj H
    go_enter Tryd.func29, Tryd.ntmps29
    go_wp2_with (first | ((with_reducible refine gate_dst (N := 2) rfl ?_); refine box_event ?hg (N := 2) ?hd (cs := #[.string a0_0, .string a0_1]) (t := 38) ?hr ?_; (case hd => rfl); (case hg => rfl); (case hr => first | (go_simp; done) | (go_simp; rfl)); intro gb289 hg w4 hbox hb; have n0_ := Aside0.mk (below_step (by repeat (first | (with_reducible first | exact HB.out | apply below_alloc | apply pw_below_drewN | apply below_drew1) | exact HB.out)) hb); have n1_ := Aside0.mk (hbox); have n2_ := Aside0.mk ((by rw [hg]; exact (below_size (by repeat (first | (with_reducible first | exact HB.out | apply below_alloc | apply pw_below_drewN | apply below_drew1) | exact HB.out))) : w.heap.size ≤ gb289)); have n3_ := Aside0.mk ((by rw [hg]; exact (below_size (by repeat (first | (with_reducible first | exact HB.out | apply below_alloc | apply pw_below_drewN | apply below_drew1) | exact HB.out))) : w.heap.size ≤ gb289)); clear HB; have HB := n0_; have BK289 := n1_; have GW289 := n2_; have GE289 := n3_; clear n0_ n1_ n2_ n3_; clear hb hbox hg; have hcz5_0 : w4.cell? ⟨gb289, 0, none⟩ = some (.string a0_0) := (blk_cell BK289.out 0).trans rfl; have hcz5_1 : w4.cell? ⟨gb289, 1, none⟩ = some (.string a0_1) := (blk_cell BK289.out 1).trans rfl; have hfz5_0 := blk_frozen BK289.out 0; have hfz5_1 := blk_frozen BK289.out 1))
    go_ret
    exact ⟨by first | rfl | (simp [errW_none, errW_some] <;> rfl) | (simp [*, errW_none, errW_some] <;> rfl), by repeat (first | (with_reducible first | exact HB.out | apply below_alloc | apply pw_below_drewN | apply below_drew1 | refine below_set ?_ GE289.out) | exact HB.out)⟩
  · rw [if_neg c3] at H
    have c3b0 : (a0_0.toList == ([42] : List UInt8)) = false := beq_eq_false_iff_ne.mpr c3
    have c3b1 : (a0_0.toList != ([42] : List UInt8)) = true := bne_iff_ne.mpr c3
    replace H := Option.bind_eq_some_iff.mp H
    obtain ⟨⟨t290, t291⟩, A60, H⟩ := H
    replace H : ((spec_l6Parts.f k a0_1).bind fun bt294 => ((spec_l6Compare.f k t290 bt294.1).bind fun t298 => (if a0_0.toList = ([61] : List UInt8) then (some (t298 == 0)) else (if a0_0.toList = ([33, 61] : List UInt8) then (some (t298 != 0)) else (if a0_0.toList = ([62] : List UInt8) then (some (decide (t298 > 0))) else (if a0_0.toList = ([62, 61] : List UInt8) then (some (decide (t298 ≥ 0))) else (if a0_0.toList = ([60] : List UInt8) then (some (decide (t298 < 0))) else (if a0_0.toList = ([60, 61] : List UInt8) then (some (decide (t298 ≤ 0))) else (if a0_0.toList = ([94] : List UInt8) then (if t298 ≥ 0 then ((spec_l6SamePart.f t290 bt294.1 0).bind fun t299 => (some t299)) else (some false)) else (if t298 ≥ 0 then ((spec_l6SamePart.f t290 bt294.1 0).bind fun t300 => (if t300 = true then ((spec_l6SamePart.f t290 bt294.1 1).bind fun t301 => (some t301)) else (some false))) else (some false))))))))))) = some r := H
    have A6 := Aside0.mk A60
    clear A60
    replace H := Option.bind_eq_some_iff.mp H
    obtain ⟨⟨t294, t295⟩, A70, H⟩ := H
    replace H : ((spec_l6Compare.f k t290 t294).bind fun t298 => (if a0_0.toList = ([61] : List UInt8) then (some (t298 == 0)) else (if a0_0.toList = ([33, 61] : List UInt8) then (some (t298 != 0)) else (if a0_0.toList = ([62] : List UInt8) then (some (decide (t298 > 0))) else (if a0_0.toList = ([62, 61] : List UInt8) then (some (decide (t298 ≥ 0))) else (if a0_0.toList = ([60] : List UInt8) then (some (decide (t298 < 0))) else (if a0_0.toList = ([60, 61] : List UInt8) then (some (decide (t298 ≤ 0))) else (if a0_0.toList = ([94] : List UInt8) then (if t298 ≥ 0 then ((spec_l6SamePart.f t290 t294 0).bind fun t299 => (some t299)) else (some false)) else (if t298 ≥ 0 then ((spec_l6SamePart.f t290 t294 0).bind fun t300 => (if t300 = true then ((spec_l6SamePart.f t290 t294 1).bind fun t301 => (some t301)) else (some false))) else (some false)))))))))) = some r := H
    have A7 := Aside0.mk A70
    clear A70
    replace H := Option.bind_eq_some_iff.mp H
    obtain ⟨t298, A80, H⟩ := H
    replace H : (if a0_0.toList = ([61] : List UInt8) then (some (t298 == 0)) else (if a0_0.toList = ([33, 61] : List UInt8) then (some (t298 != 0)) else (if a0_0.toList = ([62] : List UInt8) then (some (decide (t298 > 0))) else (if a0_0.toList = ([62, 61] : List UInt8) then (some (decide (t298 ≥ 0))) else (if a0_0.toList = ([60] : List UInt8) then (some (decide (t298 < 0))) else (if a0_0.toList = ([60, 61] : List UInt8) then (some (decide (t298 ≤ 0))) else (if a0_0.toList = ([94] : List UInt8) then (if t298 ≥ 0 then ((spec_l6SamePart.f t290 t294 0).bind fun t299 => (some t299)) else (some false)) else (if t298 ≥ 0 then ((spec_l6SamePart.f t290 t294 0).bind fun t300 => (if t300 = true then ((spec_l6SamePart.f t290 t294 1).bind fun t301 => (some t301)) else (some false))) else (some false))))))))) = some r := H
    have A8 := Aside0.mk A80
    clear A80
    by_cases c9 : a0_0.toList = ([61] : List UInt8)
    · rw [if_pos c9] at H
      have c9b0 : (a0_0.toList == ([61] : List UInt8)) = true := beq_iff_eq.mpr c9
      have c9b1 : (a0_0.toList != ([61] : List UInt8)) = false := bne_eq_false_iff_eq.mpr c9
      clear c9
      obtain rfl := Option.some.inj H
      go_enter Tryd.func29, Tryd.ntmps29
      go_wp2_with (first | ((with_reducible refine gate_dst (N := 2) rfl ?_); refine box_event ?hg (N := 2) ?hd (cs := #[.string a0_0, .string a0_1]) (t := 38) ?hr ?_; (case hd => rfl); (case hg => rfl); (case hr => first | (go_simp; done) | (go_simp; rfl)); intro gb289 hg w10 hbox hb; have n0_ := Aside0.mk (below_step (by repeat (first | (with_reducible first | exact HB.out | apply below_alloc | apply pw_below_drewN | apply below_drew1) | exact HB.out)) hb); have n1_ := Aside0.mk (hbox); have n2_ := Aside0.mk ((by rw [hg]; exact (below_size (by repeat (first | (with_reducible first | exact HB.out | apply below_alloc | apply pw_below_drewN | apply below_drew1) | exact HB.out))) : w.heap.size ≤ gb289)); have n3_ := Aside0.mk ((by rw [hg]; exact (below_size (by repeat (first | (with_reducible first | exact HB.out | apply below_alloc | apply pw_below_drewN | apply below_drew1) | exact HB.out))) : w.heap.size ≤ gb289)); clear HB; have HB := n0_; have BK289 := n1_; have GW289 := n2_; have GE289 := n3_; clear n0_ n1_ n2_ n3_; clear hb hbox hg; have hcz11_0 : w10.cell? ⟨gb289, 0, none⟩ = some (.string a0_0) := (blk_cell BK289.out 0).trans rfl; have hcz11_1 : w10.cell? ⟨gb289, 1, none⟩ = some (.string a0_1) := (blk_cell BK289.out 1).trans rfl; have hfz11_0 := blk_frozen BK289.out 0; have hfz11_1 := blk_frozen BK289.out 1) | ((with_reducible refine gate_callee (f := 42) rfl ?_); refine goesL_ (some 15) rfl rfl Tryd.func42 (by kernel_rfl) rfl #[.string a1] rfl (by (try simp only [List.map_toArray, List.map_cons, List.map_nil]); first | done | rfl | (simp only [List.length_drop, List.length_take]; rfl)) ?_; (with_reducible refine (spec_l6Parts.calls k a1 t290 t291 _ A6.out).mono ?_); rintro e w12 ⟨v292, rfl, ho0, hb⟩; refine ⟨_, rfl, ?_⟩; have n0_ := Aside0.mk (Kd.R_lower ho0 (below_size (by repeat (first | (with_reducible first | exact HB.out | apply below_alloc | apply pw_below_drewN | apply below_drew1 | refine below_set ?_ GE289.out) | exact HB.out)))); have n1_ := Aside0.mk (blk_below (g := gb289) (o := .cells #[.string a0_0, .string a0_1] 38 (0, 0)) (by (with_reducible repeat (first | refine blk_drewN ?_ _ | refine blk_drew ?_ | refine blk_alloc ?_ _)); exact BK289.out) hb); have n2_ := Aside0.mk (below_step (by repeat (first | (with_reducible first | exact HB.out | apply below_alloc | apply pw_below_drewN | apply below_drew1 | refine below_set ?_ GE289.out) | exact HB.out)) hb); clear BK289; clear HB; have HO293 := n0_; have BK289 := n1_; have HB := n2_; clear n0_ n1_ n2_; (try clear hb); (try clear hb2); (try clear hk); (try clear hi); (try clear ho0); have hcz13_0 : w12.cell? ⟨gb289, 0, none⟩ = some (.string a0_0) := (blk_cell BK289.out 0).trans rfl; have hcz13_1 : w12.cell? ⟨gb289, 1, none⟩ = some (.string a0_1) := (blk_cell BK289.out 1).trans rfl; have hfz13_0 := blk_frozen BK289.out 0; have hfz13_1 := blk_frozen BK289.out 1) | ((with_reducible refine gate_callee (f := 42) rfl ?_); refine goesL_ (some 21) rfl rfl Tryd.func42 (by kernel_rfl) rfl #[.string a0_1] rfl (by (try simp only [List.map_toArray, List.map_cons, List.map_nil]); first | done | rfl | (simp only [List.length_drop, List.length_take]; rfl)) ?_; (with_reducible refine (spec_l6Parts.calls k a0_1 t294 t295 _ A7.out).mono ?_); rintro e w14 ⟨v296, rfl, ho0, hb⟩; refine ⟨_, rfl, ?_⟩; have n0_ := Aside0.mk (Kd.R_elder' (by (with_reducible repeat (first | apply Kd.R_alloc | apply Kd.R_drewN | apply Kd.R_drew)); exact HO293.out) (Kd.R_base ho0) hb); have n1_ := Aside0.mk (Kd.R_lower (Kd.R_new' ho0 (Kd.R_lt (by (with_reducible repeat (first | apply Kd.R_alloc | apply Kd.R_drewN | apply Kd.R_drew)); exact HO293.out))) (below_size (by repeat (first | (with_reducible first | exact HB.out | apply below_alloc | apply pw_below_drewN | apply below_drew1 | refine below_set ?_ GE289.out) | exact HB.out)))); have n2_ := Aside0.mk (blk_below (g := gb289) (o := .cells #[.string a0_0, .string a0_1] 38 (0, 0)) (by (with_reducible repeat (first | refine blk_drewN ?_ _ | refine blk_drew ?_ | refine blk_alloc ?_ _)); exact BK289.out) hb); have n3_ := Aside0.mk (below_step (by repeat (first | (with_reducible first | exact HB.out | apply below_alloc | apply pw_below_drewN | apply below_drew1 | refine below_set ?_ GE289.out) | exact HB.out)) hb); clear HO293; clear BK289; clear HB; have HO293 := n0_; have HO297 := n1_; have BK289 := n2_; have HB := n3_; clear n0_ n1_ n2_ n3_; (try clear hb); (try clear hb2); (try clear hk); (try clear hi); (try clear ho0); obtain ⟨Ao15, co15, eo15⟩ := Kd.R_slice HO293.out; subst eo15; obtain ⟨Ao16, co16, eo16⟩ := Kd.R_slice HO297.out; subst eo16) | ((with_reducible refine gate_callee (f := 43) rfl ?_); refine goesL_ (some 26) rfl rfl Tryd.func43 (by kernel_rfl) rfl #[.slice Ao15 t290.length co15, .slice Ao16 t294.length co16] rfl (by (try simp only [List.map_toArray, List.map_cons, List.map_nil]); first | done | rfl | (simp only [List.length_drop, List.length_take]; rfl)) ?_; (with_reducible refine (spec_l6Compare.calls k _ _ t290 _ _ t294 t298 _ ?side1 ?side2 ?side3 ?side4 A8.out).mono ?_); (case side1 => repeat (first | exact (Kd.R_reads' HO293.out).2.2 | (with_reducible refine Kd.C_alloc ?_ _) | (with_reducible refine Kd.C_drewN ?_ _) | (with_reducible refine Kd.C_drew ?_))); (case side2 => exact (Kd.R_reads' HO293.out).2.1); (case side3 => repeat (first | exact (Kd.R_reads' HO297.out).2.2 | (with_reducible refine Kd.C_alloc ?_ _) | (with_reducible refine Kd.C_drewN ?_ _) | (with_reducible refine Kd.C_drew ?_))); (case side4 => exact (Kd.R_reads' HO297.out).2.1); rintro e w' ⟨rfl, ⟨nd, rfl⟩⟩; refine ⟨_, rfl, ?_⟩; have hcz17_0 : w14.cell? ⟨gb289, 0, none⟩ = some (.string a0_0) := (blk_cell BK289.out 0).trans rfl; have hcz17_1 : w14.cell? ⟨gb289, 1, none⟩ = some (.string a0_1) := (blk_cell BK289.out 1).trans rfl; have hfz17_0 := blk_frozen BK289.out 0; have hfz17_1 := blk_frozen BK289.out 1))
      go_ret
      exact ⟨by first | rfl | (simp [errW_none, errW_some] <;> rfl) | (simp [*, errW_none, errW_some] <;> rfl), by repeat (first | (with_reducible first | exact HB.out | apply below_alloc | apply pw_below_drewN | apply below_drew1 | refine below_set ?_ GE289.out) | exact HB.out)⟩
    · rw [if_neg c9] at H
      have c9b0 : (a0_0.toList == ([61] : List UInt8)) = false := beq_eq_false_iff_ne.mpr c9
      have c9b1 : (a0_0.toList != ([61] : List UInt8)) = true := bne_iff_ne.mpr c9
      by_cases c18 : a0_0.toList = ([33, 61] : List UInt8)
      · rw [if_pos c18] at H
        have c18b0 : (a0_0.toList == ([33, 61] : List UInt8)) = true := beq_iff_eq.mpr c18
        have c18b1 : (a0_0.toList != ([33, 61] : List UInt8)) = false := bne_eq_false_iff_eq.mpr c18
        clear c18
        obtain rfl := Option.some.inj H
        go_enter Tryd.func29, Tryd.ntmps29
        go_wp2_with (first | ((with_reducible refine gate_dst (N := 2) rfl ?_); refine box_event ?hg (N := 2) ?hd (cs := #[.string a0_0, .string a0_1]) (t := 38) ?hr ?_; (case hd => rfl); (case hg => rfl); (case hr => first | (go_simp; done) | (go_simp; rfl)); intro gb289 hg w19 hbox hb; have n0_ := Aside0.mk (below_step (by repeat (first | (with_reducible first | exact HB.out | apply below_alloc | apply pw_below_drewN | apply below_drew1) | exact HB.out)) hb); have n1_ := Aside0.mk (hbox); have n2_ := Aside0.mk ((by rw [hg]; exact (below_size (by repeat (first | (with_reducible first | exact HB.out | apply below_alloc | apply pw_below_drewN | apply below_drew1) | exact HB.out))) : w.heap.size ≤ gb289)); have n3_ := Aside0.mk ((by rw [hg]; exact (below_size (by repeat (first | (with_reducible first | exact HB.out | apply below_alloc | apply pw_below_drewN | apply below_drew1) | exact HB.out))) : w.heap.size ≤ gb289)); clear HB; have HB := n0_; have BK289 := n1_; have GW289 := n2_; have GE289 := n3_; clear n0_ n1_ n2_ n3_; clear hb hbox hg; have hcz20_0 : w19.cell? ⟨gb289, 0, none⟩ = some (.string a0_0) := (blk_cell BK289.out 0).trans rfl; have hcz20_1 : w19.cell? ⟨gb289, 1, none⟩ = some (.string a0_1) := (blk_cell BK289.out 1).trans rfl; have hfz20_0 := blk_frozen BK289.out 0; have hfz20_1 := blk_frozen BK289.out 1) | ((with_reducible refine gate_callee (f := 42) rfl ?_); refine goesL_ (some 15) rfl rfl Tryd.func42 (by kernel_rfl) rfl #[.string a1] rfl (by (try simp only [List.map_toArray, List.map_cons, List.map_nil]); first | done | rfl | (simp only [List.length_drop, List.length_take]; rfl)) ?_; (with_reducible refine (spec_l6Parts.calls k a1 t290 t291 _ A6.out).mono ?_); rintro e w21 ⟨v292, rfl, ho0, hb⟩; refine ⟨_, rfl, ?_⟩; have n0_ := Aside0.mk (Kd.R_lower ho0 (below_size (by repeat (first | (with_reducible first | exact HB.out | apply below_alloc | apply pw_below_drewN | apply below_drew1 | refine below_set ?_ GE289.out) | exact HB.out)))); have n1_ := Aside0.mk (blk_below (g := gb289) (o := .cells #[.string a0_0, .string a0_1] 38 (0, 0)) (by (with_reducible repeat (first | refine blk_drewN ?_ _ | refine blk_drew ?_ | refine blk_alloc ?_ _)); exact BK289.out) hb); have n2_ := Aside0.mk (below_step (by repeat (first | (with_reducible first | exact HB.out | apply below_alloc | apply pw_below_drewN | apply below_drew1 | refine below_set ?_ GE289.out) | exact HB.out)) hb); clear BK289; clear HB; have HO293 := n0_; have BK289 := n1_; have HB := n2_; clear n0_ n1_ n2_; (try clear hb); (try clear hb2); (try clear hk); (try clear hi); (try clear ho0); have hcz22_0 : w21.cell? ⟨gb289, 0, none⟩ = some (.string a0_0) := (blk_cell BK289.out 0).trans rfl; have hcz22_1 : w21.cell? ⟨gb289, 1, none⟩ = some (.string a0_1) := (blk_cell BK289.out 1).trans rfl; have hfz22_0 := blk_frozen BK289.out 0; have hfz22_1 := blk_frozen BK289.out 1) | ((with_reducible refine gate_callee (f := 42) rfl ?_); refine goesL_ (some 21) rfl rfl Tryd.func42 (by kernel_rfl) rfl #[.string a0_1] rfl (by (try simp only [List.map_toArray, List.map_cons, List.map_nil]); first | done | rfl | (simp only [List.length_drop, List.length_take]; rfl)) ?_; (with_reducible refine (spec_l6Parts.calls k a0_1 t294 t295 _ A7.out).mono ?_); rintro e w23 ⟨v296, rfl, ho0, hb⟩; refine ⟨_, rfl, ?_⟩; have n0_ := Aside0.mk (Kd.R_elder' (by (with_reducible repeat (first | apply Kd.R_alloc | apply Kd.R_drewN | apply Kd.R_drew)); exact HO293.out) (Kd.R_base ho0) hb); have n1_ := Aside0.mk (Kd.R_lower (Kd.R_new' ho0 (Kd.R_lt (by (with_reducible repeat (first | apply Kd.R_alloc | apply Kd.R_drewN | apply Kd.R_drew)); exact HO293.out))) (below_size (by repeat (first | (with_reducible first | exact HB.out | apply below_alloc | apply pw_below_drewN | apply below_drew1 | refine below_set ?_ GE289.out) | exact HB.out)))); have n2_ := Aside0.mk (blk_below (g := gb289) (o := .cells #[.string a0_0, .string a0_1] 38 (0, 0)) (by (with_reducible repeat (first | refine blk_drewN ?_ _ | refine blk_drew ?_ | refine blk_alloc ?_ _)); exact BK289.out) hb); have n3_ := Aside0.mk (below_step (by repeat (first | (with_reducible first | exact HB.out | apply below_alloc | apply pw_below_drewN | apply below_drew1 | refine below_set ?_ GE289.out) | exact HB.out)) hb); clear HO293; clear BK289; clear HB; have HO293 := n0_; have HO297 := n1_; have BK289 := n2_; have HB := n3_; clear n0_ n1_ n2_ n3_; (try clear hb); (try clear hb2); (try clear hk); (try clear hi); (try clear ho0); obtain ⟨Ao24, co24, eo24⟩ := Kd.R_slice HO293.out; subst eo24; obtain ⟨Ao25, co25, eo25⟩ := Kd.R_slice HO297.out; subst eo25) | ((with_reducible refine gate_callee (f := 43) rfl ?_); refine goesL_ (some 26) rfl rfl Tryd.func43 (by kernel_rfl) rfl #[.slice Ao24 t290.length co24, .slice Ao25 t294.length co25] rfl (by (try simp only [List.map_toArray, List.map_cons, List.map_nil]); first | done | rfl | (simp only [List.length_drop, List.length_take]; rfl)) ?_; (with_reducible refine (spec_l6Compare.calls k _ _ t290 _ _ t294 t298 _ ?side1 ?side2 ?side3 ?side4 A8.out).mono ?_); (case side1 => repeat (first | exact (Kd.R_reads' HO293.out).2.2 | (with_reducible refine Kd.C_alloc ?_ _) | (with_reducible refine Kd.C_drewN ?_ _) | (with_reducible refine Kd.C_drew ?_))); (case side2 => exact (Kd.R_reads' HO293.out).2.1); (case side3 => repeat (first | exact (Kd.R_reads' HO297.out).2.2 | (with_reducible refine Kd.C_alloc ?_ _) | (with_reducible refine Kd.C_drewN ?_ _) | (with_reducible refine Kd.C_drew ?_))); (case side4 => exact (Kd.R_reads' HO297.out).2.1); rintro e w' ⟨rfl, ⟨nd, rfl⟩⟩; refine ⟨_, rfl, ?_⟩; have hcz26_0 : w23.cell? ⟨gb289, 0, none⟩ = some (.string a0_0) := (blk_cell BK289.out 0).trans rfl; have hcz26_1 : w23.cell? ⟨gb289, 1, none⟩ = some (.string a0_1) := (blk_cell BK289.out 1).trans rfl; have hfz26_0 := blk_frozen BK289.out 0; have hfz26_1 := blk_frozen BK289.out 1))
        go_ret
        exact ⟨by first | rfl | (simp [errW_none, errW_some] <;> rfl) | (simp [*, errW_none, errW_some] <;> rfl), by repeat (first | (with_reducible first | exact HB.out | apply below_alloc | apply pw_below_drewN | apply below_drew1 | refine below_set ?_ GE289.out) | exact HB.out)⟩
      · rw [if_neg c18] at H
        have c18b0 : (a0_0.toList == ([33, 61] : List UInt8)) = false := beq_eq_false_iff_ne.mpr c18
        have c18b1 : (a0_0.toList != ([33, 61] : List UInt8)) = true := bne_iff_ne.mpr c18
        by_cases c27 : a0_0.toList = ([62] : List UInt8)
        · rw [if_pos c27] at H
          have c27b0 : (a0_0.toList == ([62] : List UInt8)) = true := beq_iff_eq.mpr c27
          have c27b1 : (a0_0.toList != ([62] : List UInt8)) = false := bne_eq_false_iff_eq.mpr c27
          clear c27
          obtain rfl := Option.some.inj H
          go_enter Tryd.func29, Tryd.ntmps29
          go_wp2_with (first | ((with_reducible refine gate_dst (N := 2) rfl ?_); refine box_event ?hg (N := 2) ?hd (cs := #[.string a0_0, .string a0_1]) (t := 38) ?hr ?_; (case hd => rfl); (case hg => rfl); (case hr => first | (go_simp; done) | (go_simp; rfl)); intro gb289 hg w28 hbox hb; have n0_ := Aside0.mk (below_step (by repeat (first | (with_reducible first | exact HB.out | apply below_alloc | apply pw_below_drewN | apply below_drew1) | exact HB.out)) hb); have n1_ := Aside0.mk (hbox); have n2_ := Aside0.mk ((by rw [hg]; exact (below_size (by repeat (first | (with_reducible first | exact HB.out | apply below_alloc | apply pw_below_drewN | apply below_drew1) | exact HB.out))) : w.heap.size ≤ gb289)); have n3_ := Aside0.mk ((by rw [hg]; exact (below_size (by repeat (first | (with_reducible first | exact HB.out | apply below_alloc | apply pw_below_drewN | apply below_drew1) | exact HB.out))) : w.heap.size ≤ gb289)); clear HB; have HB := n0_; have BK289 := n1_; have GW289 := n2_; have GE289 := n3_; clear n0_ n1_ n2_ n3_; clear hb hbox hg; have hcz29_0 : w28.cell? ⟨gb289, 0, none⟩ = some (.string a0_0) := (blk_cell BK289.out 0).trans rfl; have hcz29_1 : w28.cell? ⟨gb289, 1, none⟩ = some (.string a0_1) := (blk_cell BK289.out 1).trans rfl; have hfz29_0 := blk_frozen BK289.out 0; have hfz29_1 := blk_frozen BK289.out 1) | ((with_reducible refine gate_callee (f := 42) rfl ?_); refine goesL_ (some 15) rfl rfl Tryd.func42 (by kernel_rfl) rfl #[.string a1] rfl (by (try simp only [List.map_toArray, List.map_cons, List.map_nil]); first | done | rfl | (simp only [List.length_drop, List.length_take]; rfl)) ?_; (with_reducible refine (spec_l6Parts.calls k a1 t290 t291 _ A6.out).mono ?_); rintro e w30 ⟨v292, rfl, ho0, hb⟩; refine ⟨_, rfl, ?_⟩; have n0_ := Aside0.mk (Kd.R_lower ho0 (below_size (by repeat (first | (with_reducible first | exact HB.out | apply below_alloc | apply pw_below_drewN | apply below_drew1 | refine below_set ?_ GE289.out) | exact HB.out)))); have n1_ := Aside0.mk (blk_below (g := gb289) (o := .cells #[.string a0_0, .string a0_1] 38 (0, 0)) (by (with_reducible repeat (first | refine blk_drewN ?_ _ | refine blk_drew ?_ | refine blk_alloc ?_ _)); exact BK289.out) hb); have n2_ := Aside0.mk (below_step (by repeat (first | (with_reducible first | exact HB.out | apply below_alloc | apply pw_below_drewN | apply below_drew1 | refine below_set ?_ GE289.out) | exact HB.out)) hb); clear BK289; clear HB; have HO293 := n0_; have BK289 := n1_; have HB := n2_; clear n0_ n1_ n2_; (try clear hb); (try clear hb2); (try clear hk); (try clear hi); (try clear ho0); have hcz31_0 : w30.cell? ⟨gb289, 0, none⟩ = some (.string a0_0) := (blk_cell BK289.out 0).trans rfl; have hcz31_1 : w30.cell? ⟨gb289, 1, none⟩ = some (.string a0_1) := (blk_cell BK289.out 1).trans rfl; have hfz31_0 := blk_frozen BK289.out 0; have hfz31_1 := blk_frozen BK289.out 1) | ((with_reducible refine gate_callee (f := 42) rfl ?_); refine goesL_ (some 21) rfl rfl Tryd.func42 (by kernel_rfl) rfl #[.string a0_1] rfl (by (try simp only [List.map_toArray, List.map_cons, List.map_nil]); first | done | rfl | (simp only [List.length_drop, List.length_take]; rfl)) ?_; (with_reducible refine (spec_l6Parts.calls k a0_1 t294 t295 _ A7.out).mono ?_); rintro e w32 ⟨v296, rfl, ho0, hb⟩; refine ⟨_, rfl, ?_⟩; have n0_ := Aside0.mk (Kd.R_elder' (by (with_reducible repeat (first | apply Kd.R_alloc | apply Kd.R_drewN | apply Kd.R_drew)); exact HO293.out) (Kd.R_base ho0) hb); have n1_ := Aside0.mk (Kd.R_lower (Kd.R_new' ho0 (Kd.R_lt (by (with_reducible repeat (first | apply Kd.R_alloc | apply Kd.R_drewN | apply Kd.R_drew)); exact HO293.out))) (below_size (by repeat (first | (with_reducible first | exact HB.out | apply below_alloc | apply pw_below_drewN | apply below_drew1 | refine below_set ?_ GE289.out) | exact HB.out)))); have n2_ := Aside0.mk (blk_below (g := gb289) (o := .cells #[.string a0_0, .string a0_1] 38 (0, 0)) (by (with_reducible repeat (first | refine blk_drewN ?_ _ | refine blk_drew ?_ | refine blk_alloc ?_ _)); exact BK289.out) hb); have n3_ := Aside0.mk (below_step (by repeat (first | (with_reducible first | exact HB.out | apply below_alloc | apply pw_below_drewN | apply below_drew1 | refine below_set ?_ GE289.out) | exact HB.out)) hb); clear HO293; clear BK289; clear HB; have HO293 := n0_; have HO297 := n1_; have BK289 := n2_; have HB := n3_; clear n0_ n1_ n2_ n3_; (try clear hb); (try clear hb2); (try clear hk); (try clear hi); (try clear ho0); obtain ⟨Ao33, co33, eo33⟩ := Kd.R_slice HO293.out; subst eo33; obtain ⟨Ao34, co34, eo34⟩ := Kd.R_slice HO297.out; subst eo34) | ((with_reducible refine gate_callee (f := 43) rfl ?_); refine goesL_ (some 26) rfl rfl Tryd.func43 (by kernel_rfl) rfl #[.slice Ao33 t290.length co33, .slice Ao34 t294.length co34] rfl (by (try simp only [List.map_toArray, List.map_cons, List.map_nil]); first | done | rfl | (simp only [List.length_drop, List.length_take]; rfl)) ?_; (with_reducible refine (spec_l6Compare.calls k _ _ t290 _ _ t294 t298 _ ?side1 ?side2 ?side3 ?side4 A8.out).mono ?_); (case side1 => repeat (first | exact (Kd.R_reads' HO293.out).2.2 | (with_reducible refine Kd.C_alloc ?_ _) | (with_reducible refine Kd.C_drewN ?_ _) | (with_reducible refine Kd.C_drew ?_))); (case side2 => exact (Kd.R_reads' HO293.out).2.1); (case side3 => repeat (first | exact (Kd.R_reads' HO297.out).2.2 | (with_reducible refine Kd.C_alloc ?_ _) | (with_reducible refine Kd.C_drewN ?_ _) | (with_reducible refine Kd.C_drew ?_))); (case side4 => exact (Kd.R_reads' HO297.out).2.1); rintro e w' ⟨rfl, ⟨nd, rfl⟩⟩; refine ⟨_, rfl, ?_⟩; have hcz35_0 : w32.cell? ⟨gb289, 0, none⟩ = some (.string a0_0) := (blk_cell BK289.out 0).trans rfl; have hcz35_1 : w32.cell? ⟨gb289, 1, none⟩ = some (.string a0_1) := (blk_cell BK289.out 1).trans rfl; have hfz35_0 := blk_frozen BK289.out 0; have hfz35_1 := blk_frozen BK289.out 1))
          go_ret
          exact ⟨by first | rfl | (simp [errW_none, errW_some] <;> rfl) | (simp [*, errW_none, errW_some] <;> rfl), by repeat (first | (with_reducible first | exact HB.out | apply below_alloc | apply pw_below_drewN | apply below_drew1 | refine below_set ?_ GE289.out) | exact HB.out)⟩
        · rw [if_neg c27] at H
          have c27b0 : (a0_0.toList == ([62] : List UInt8)) = false := beq_eq_false_iff_ne.mpr c27
          have c27b1 : (a0_0.toList != ([62] : List UInt8)) = true := bne_iff_ne.mpr c27
          by_cases c36 : a0_0.toList = ([62, 61] : List UInt8)
          · rw [if_pos c36] at H
            have c36b0 : (a0_0.toList == ([62, 61] : List UInt8)) = true := beq_iff_eq.mpr c36
            have c36b1 : (a0_0.toList != ([62, 61] : List UInt8)) = false := bne_eq_false_iff_eq.mpr c36
            clear c36
            obtain rfl := Option.some.inj H
            go_enter Tryd.func29, Tryd.ntmps29
            go_wp2_with (first | ((with_reducible refine gate_dst (N := 2) rfl ?_); refine box_event ?hg (N := 2) ?hd (cs := #[.string a0_0, .string a0_1]) (t := 38) ?hr ?_; (case hd => rfl); (case hg => rfl); (case hr => first | (go_simp; done) | (go_simp; rfl)); intro gb289 hg w37 hbox hb; have n0_ := Aside0.mk (below_step (by repeat (first | (with_reducible first | exact HB.out | apply below_alloc | apply pw_below_drewN | apply below_drew1) | exact HB.out)) hb); have n1_ := Aside0.mk (hbox); have n2_ := Aside0.mk ((by rw [hg]; exact (below_size (by repeat (first | (with_reducible first | exact HB.out | apply below_alloc | apply pw_below_drewN | apply below_drew1) | exact HB.out))) : w.heap.size ≤ gb289)); have n3_ := Aside0.mk ((by rw [hg]; exact (below_size (by repeat (first | (with_reducible first | exact HB.out | apply below_alloc | apply pw_below_drewN | apply below_drew1) | exact HB.out))) : w.heap.size ≤ gb289)); clear HB; have HB := n0_; have BK289 := n1_; have GW289 := n2_; have GE289 := n3_; clear n0_ n1_ n2_ n3_; clear hb hbox hg; have hcz38_0 : w37.cell? ⟨gb289, 0, none⟩ = some (.string a0_0) := (blk_cell BK289.out 0).trans rfl; have hcz38_1 : w37.cell? ⟨gb289, 1, none⟩ = some (.string a0_1) := (blk_cell BK289.out 1).trans rfl; have hfz38_0 := blk_frozen BK289.out 0; have hfz38_1 := blk_frozen BK289.out 1) | ((with_reducible refine gate_callee (f := 42) rfl ?_); refine goesL_ (some 15) rfl rfl Tryd.func42 (by kernel_rfl) rfl #[.string a1] rfl (by (try simp only [List.map_toArray, List.map_cons, List.map_nil]); first | done | rfl | (simp only [List.length_drop, List.length_take]; rfl)) ?_; (with_reducible refine (spec_l6Parts.calls k a1 t290 t291 _ A6.out).mono ?_); rintro e w39 ⟨v292, rfl, ho0, hb⟩; refine ⟨_, rfl, ?_⟩; have n0_ := Aside0.mk (Kd.R_lower ho0 (below_size (by repeat (first | (with_reducible first | exact HB.out | apply below_alloc | apply pw_below_drewN | apply below_drew1 | refine below_set ?_ GE289.out) | exact HB.out)))); have n1_ := Aside0.mk (blk_below (g := gb289) (o := .cells #[.string a0_0, .string a0_1] 38 (0, 0)) (by (with_reducible repeat (first | refine blk_drewN ?_ _ | refine blk_drew ?_ | refine blk_alloc ?_ _)); exact BK289.out) hb); have n2_ := Aside0.mk (below_step (by repeat (first | (with_reducible first | exact HB.out | apply below_alloc | apply pw_below_drewN | apply below_drew1 | refine below_set ?_ GE289.out) | exact HB.out)) hb); clear BK289; clear HB; have HO293 := n0_; have BK289 := n1_; have HB := n2_; clear n0_ n1_ n2_; (try clear hb); (try clear hb2); (try clear hk); (try clear hi); (try clear ho0); have hcz40_0 : w39.cell? ⟨gb289, 0, none⟩ = some (.string a0_0) := (blk_cell BK289.out 0).trans rfl; have hcz40_1 : w39.cell? ⟨gb289, 1, none⟩ = some (.string a0_1) := (blk_cell BK289.out 1).trans rfl; have hfz40_0 := blk_frozen BK289.out 0; have hfz40_1 := blk_frozen BK289.out 1) | ((with_reducible refine gate_callee (f := 42) rfl ?_); refine goesL_ (some 21) rfl rfl Tryd.func42 (by kernel_rfl) rfl #[.string a0_1] rfl (by (try simp only [List.map_toArray, List.map_cons, List.map_nil]); first | done | rfl | (simp only [List.length_drop, List.length_take]; rfl)) ?_; (with_reducible refine (spec_l6Parts.calls k a0_1 t294 t295 _ A7.out).mono ?_); rintro e w41 ⟨v296, rfl, ho0, hb⟩; refine ⟨_, rfl, ?_⟩; have n0_ := Aside0.mk (Kd.R_elder' (by (with_reducible repeat (first | apply Kd.R_alloc | apply Kd.R_drewN | apply Kd.R_drew)); exact HO293.out) (Kd.R_base ho0) hb); have n1_ := Aside0.mk (Kd.R_lower (Kd.R_new' ho0 (Kd.R_lt (by (with_reducible repeat (first | apply Kd.R_alloc | apply Kd.R_drewN | apply Kd.R_drew)); exact HO293.out))) (below_size (by repeat (first | (with_reducible first | exact HB.out | apply below_alloc | apply pw_below_drewN | apply below_drew1 | refine below_set ?_ GE289.out) | exact HB.out)))); have n2_ := Aside0.mk (blk_below (g := gb289) (o := .cells #[.string a0_0, .string a0_1] 38 (0, 0)) (by (with_reducible repeat (first | refine blk_drewN ?_ _ | refine blk_drew ?_ | refine blk_alloc ?_ _)); exact BK289.out) hb); have n3_ := Aside0.mk (below_step (by repeat (first | (with_reducible first | exact HB.out | apply below_alloc | apply pw_below_drewN | apply below_drew1 | refine below_set ?_ GE289.out) | exact HB.out)) hb); clear HO293; clear BK289; clear HB; have HO293 := n0_; have HO297 := n1_; have BK289 := n2_; have HB := n3_; clear n0_ n1_ n2_ n3_; (try clear hb); (try clear hb2); (try clear hk); (try clear hi); (try clear ho0); obtain ⟨Ao42, co42, eo42⟩ := Kd.R_slice HO293.out; subst eo42; obtain ⟨Ao43, co43, eo43⟩ := Kd.R_slice HO297.out; subst eo43) | ((with_reducible refine gate_callee (f := 43) rfl ?_); refine goesL_ (some 26) rfl rfl Tryd.func43 (by kernel_rfl) rfl #[.slice Ao42 t290.length co42, .slice Ao43 t294.length co43] rfl (by (try simp only [List.map_toArray, List.map_cons, List.map_nil]); first | done | rfl | (simp only [List.length_drop, List.length_take]; rfl)) ?_; (with_reducible refine (spec_l6Compare.calls k _ _ t290 _ _ t294 t298 _ ?side1 ?side2 ?side3 ?side4 A8.out).mono ?_); (case side1 => repeat (first | exact (Kd.R_reads' HO293.out).2.2 | (with_reducible refine Kd.C_alloc ?_ _) | (with_reducible refine Kd.C_drewN ?_ _) | (with_reducible refine Kd.C_drew ?_))); (case side2 => exact (Kd.R_reads' HO293.out).2.1); (case side3 => repeat (first | exact (Kd.R_reads' HO297.out).2.2 | (with_reducible refine Kd.C_alloc ?_ _) | (with_reducible refine Kd.C_drewN ?_ _) | (with_reducible refine Kd.C_drew ?_))); (case side4 => exact (Kd.R_reads' HO297.out).2.1); rintro e w' ⟨rfl, ⟨nd, rfl⟩⟩; refine ⟨_, rfl, ?_⟩; have hcz44_0 : w41.cell? ⟨gb289, 0, none⟩ = some (.string a0_0) := (blk_cell BK289.out 0).trans rfl; have hcz44_1 : w41.cell? ⟨gb289, 1, none⟩ = some (.string a0_1) := (blk_cell BK289.out 1).trans rfl; have hfz44_0 := blk_frozen BK289.out 0; have hfz44_1 := blk_frozen BK289.out 1))
            go_ret
            exact ⟨by first | rfl | (simp [errW_none, errW_some] <;> rfl) | (simp [*, errW_none, errW_some] <;> rfl), by repeat (first | (with_reducible first | exact HB.out | apply below_alloc | apply pw_below_drewN | apply below_drew1 | refine below_set ?_ GE289.out) | exact HB.out)⟩
          · rw [if_neg c36] at H
            have c36b0 : (a0_0.toList == ([62, 61] : List UInt8)) = false := beq_eq_false_iff_ne.mpr c36
            have c36b1 : (a0_0.toList != ([62, 61] : List UInt8)) = true := bne_iff_ne.mpr c36
            by_cases c45 : a0_0.toList = ([60] : List UInt8)
            · rw [if_pos c45] at H
              have c45b0 : (a0_0.toList == ([60] : List UInt8)) = true := beq_iff_eq.mpr c45
              have c45b1 : (a0_0.toList != ([60] : List UInt8)) = false := bne_eq_false_iff_eq.mpr c45
              clear c45
              obtain rfl := Option.some.inj H
              go_enter Tryd.func29, Tryd.ntmps29
              go_wp2_with (first | ((with_reducible refine gate_dst (N := 2) rfl ?_); refine box_event ?hg (N := 2) ?hd (cs := #[.string a0_0, .string a0_1]) (t := 38) ?hr ?_; (case hd => rfl); (case hg => rfl); (case hr => first | (go_simp; done) | (go_simp; rfl)); intro gb289 hg w46 hbox hb; have n0_ := Aside0.mk (below_step (by repeat (first | (with_reducible first | exact HB.out | apply below_alloc | apply pw_below_drewN | apply below_drew1) | exact HB.out)) hb); have n1_ := Aside0.mk (hbox); have n2_ := Aside0.mk ((by rw [hg]; exact (below_size (by repeat (first | (with_reducible first | exact HB.out | apply below_alloc | apply pw_below_drewN | apply below_drew1) | exact HB.out))) : w.heap.size ≤ gb289)); have n3_ := Aside0.mk ((by rw [hg]; exact (below_size (by repeat (first | (with_reducible first | exact HB.out | apply below_alloc | apply pw_below_drewN | apply below_drew1) | exact HB.out))) : w.heap.size ≤ gb289)); clear HB; have HB := n0_; have BK289 := n1_; have GW289 := n2_; have GE289 := n3_; clear n0_ n1_ n2_ n3_; clear hb hbox hg; have hcz47_0 : w46.cell? ⟨gb289, 0, none⟩ = some (.string a0_0) := (blk_cell BK289.out 0).trans rfl; have hcz47_1 : w46.cell? ⟨gb289, 1, none⟩ = some (.string a0_1) := (blk_cell BK289.out 1).trans rfl; have hfz47_0 := blk_frozen BK289.out 0; have hfz47_1 := blk_frozen BK289.out 1) | ((with_reducible refine gate_callee (f := 42) rfl ?_); refine goesL_ (some 15) rfl rfl Tryd.func42 (by kernel_rfl) rfl #[.string a1] rfl (by (try simp only [List.map_toArray, List.map_cons, List.map_nil]); first | done | rfl | (simp only [List.length_drop, List.length_take]; rfl)) ?_; (with_reducible refine (spec_l6Parts.calls k a1 t290 t291 _ A6.out).mono ?_); rintro e w48 ⟨v292, rfl, ho0, hb⟩; refine ⟨_, rfl, ?_⟩; have n0_ := Aside0.mk (Kd.R_lower ho0 (below_size (by repeat (first | (with_reducible first | exact HB.out | apply below_alloc | apply pw_below_drewN | apply below_drew1 | refine below_set ?_ GE289.out) | exact HB.out)))); have n1_ := Aside0.mk (blk_below (g := gb289) (o := .cells #[.string a0_0, .string a0_1] 38 (0, 0)) (by (with_reducible repeat (first | refine blk_drewN ?_ _ | refine blk_drew ?_ | refine blk_alloc ?_ _)); exact BK289.out) hb); have n2_ := Aside0.mk (below_step (by repeat (first | (with_reducible first | exact HB.out | apply below_alloc | apply pw_below_drewN | apply below_drew1 | refine below_set ?_ GE289.out) | exact HB.out)) hb); clear BK289; clear HB; have HO293 := n0_; have BK289 := n1_; have HB := n2_; clear n0_ n1_ n2_; (try clear hb); (try clear hb2); (try clear hk); (try clear hi); (try clear ho0); have hcz49_0 : w48.cell? ⟨gb289, 0, none⟩ = some (.string a0_0) := (blk_cell BK289.out 0).trans rfl; have hcz49_1 : w48.cell? ⟨gb289, 1, none⟩ = some (.string a0_1) := (blk_cell BK289.out 1).trans rfl; have hfz49_0 := blk_frozen BK289.out 0; have hfz49_1 := blk_frozen BK289.out 1) | ((with_reducible refine gate_callee (f := 42) rfl ?_); refine goesL_ (some 21) rfl rfl Tryd.func42 (by kernel_rfl) rfl #[.string a0_1] rfl (by (try simp only [List.map_toArray, List.map_cons, List.map_nil]); first | done | rfl | (simp only [List.length_drop, List.length_take]; rfl)) ?_; (with_reducible refine (spec_l6Parts.calls k a0_1 t294 t295 _ A7.out).mono ?_); rintro e w50 ⟨v296, rfl, ho0, hb⟩; refine ⟨_, rfl, ?_⟩; have n0_ := Aside0.mk (Kd.R_elder' (by (with_reducible repeat (first | apply Kd.R_alloc | apply Kd.R_drewN | apply Kd.R_drew)); exact HO293.out) (Kd.R_base ho0) hb); have n1_ := Aside0.mk (Kd.R_lower (Kd.R_new' ho0 (Kd.R_lt (by (with_reducible repeat (first | apply Kd.R_alloc | apply Kd.R_drewN | apply Kd.R_drew)); exact HO293.out))) (below_size (by repeat (first | (with_reducible first | exact HB.out | apply below_alloc | apply pw_below_drewN | apply below_drew1 | refine below_set ?_ GE289.out) | exact HB.out)))); have n2_ := Aside0.mk (blk_below (g := gb289) (o := .cells #[.string a0_0, .string a0_1] 38 (0, 0)) (by (with_reducible repeat (first | refine blk_drewN ?_ _ | refine blk_drew ?_ | refine blk_alloc ?_ _)); exact BK289.out) hb); have n3_ := Aside0.mk (below_step (by repeat (first | (with_reducible first | exact HB.out | apply below_alloc | apply pw_below_drewN | apply below_drew1 | refine below_set ?_ GE289.out) | exact HB.out)) hb); clear HO293; clear BK289; clear HB; have HO293 := n0_; have HO297 := n1_; have BK289 := n2_; have HB := n3_; clear n0_ n1_ n2_ n3_; (try clear hb); (try clear hb2); (try clear hk); (try clear hi); (try clear ho0); obtain ⟨Ao51, co51, eo51⟩ := Kd.R_slice HO293.out; subst eo51; obtain ⟨Ao52, co52, eo52⟩ := Kd.R_slice HO297.out; subst eo52) | ((with_reducible refine gate_callee (f := 43) rfl ?_); refine goesL_ (some 26) rfl rfl Tryd.func43 (by kernel_rfl) rfl #[.slice Ao51 t290.length co51, .slice Ao52 t294.length co52] rfl (by (try simp only [List.map_toArray, List.map_cons, List.map_nil]); first | done | rfl | (simp only [List.length_drop, List.length_take]; rfl)) ?_; (with_reducible refine (spec_l6Compare.calls k _ _ t290 _ _ t294 t298 _ ?side1 ?side2 ?side3 ?side4 A8.out).mono ?_); (case side1 => repeat (first | exact (Kd.R_reads' HO293.out).2.2 | (with_reducible refine Kd.C_alloc ?_ _) | (with_reducible refine Kd.C_drewN ?_ _) | (with_reducible refine Kd.C_drew ?_))); (case side2 => exact (Kd.R_reads' HO293.out).2.1); (case side3 => repeat (first | exact (Kd.R_reads' HO297.out).2.2 | (with_reducible refine Kd.C_alloc ?_ _) | (with_reducible refine Kd.C_drewN ?_ _) | (with_reducible refine Kd.C_drew ?_))); (case side4 => exact (Kd.R_reads' HO297.out).2.1); rintro e w' ⟨rfl, ⟨nd, rfl⟩⟩; refine ⟨_, rfl, ?_⟩; have hcz53_0 : w50.cell? ⟨gb289, 0, none⟩ = some (.string a0_0) := (blk_cell BK289.out 0).trans rfl; have hcz53_1 : w50.cell? ⟨gb289, 1, none⟩ = some (.string a0_1) := (blk_cell BK289.out 1).trans rfl; have hfz53_0 := blk_frozen BK289.out 0; have hfz53_1 := blk_frozen BK289.out 1))
              go_ret
              exact ⟨by first | rfl | (simp [errW_none, errW_some] <;> rfl) | (simp [*, errW_none, errW_some] <;> rfl), by repeat (first | (with_reducible first | exact HB.out | apply below_alloc | apply pw_below_drewN | apply below_drew1 | refine below_set ?_ GE289.out) | exact HB.out)⟩
            · rw [if_neg c45] at H
              have c45b0 : (a0_0.toList == ([60] : List UInt8)) = false := beq_eq_false_iff_ne.mpr c45
              have c45b1 : (a0_0.toList != ([60] : List UInt8)) = true := bne_iff_ne.mpr c45
              by_cases c54 : a0_0.toList = ([60, 61] : List UInt8)
              · rw [if_pos c54] at H
                have c54b0 : (a0_0.toList == ([60, 61] : List UInt8)) = true := beq_iff_eq.mpr c54
                have c54b1 : (a0_0.toList != ([60, 61] : List UInt8)) = false := bne_eq_false_iff_eq.mpr c54
                clear c54
                obtain rfl := Option.some.inj H
                go_enter Tryd.func29, Tryd.ntmps29
                go_wp2_with (first | ((with_reducible refine gate_dst (N := 2) rfl ?_); refine box_event ?hg (N := 2) ?hd (cs := #[.string a0_0, .string a0_1]) (t := 38) ?hr ?_; (case hd => rfl); (case hg => rfl); (case hr => first | (go_simp; done) | (go_simp; rfl)); intro gb289 hg w55 hbox hb; have n0_ := Aside0.mk (below_step (by repeat (first | (with_reducible first | exact HB.out | apply below_alloc | apply pw_below_drewN | apply below_drew1) | exact HB.out)) hb); have n1_ := Aside0.mk (hbox); have n2_ := Aside0.mk ((by rw [hg]; exact (below_size (by repeat (first | (with_reducible first | exact HB.out | apply below_alloc | apply pw_below_drewN | apply below_drew1) | exact HB.out))) : w.heap.size ≤ gb289)); have n3_ := Aside0.mk ((by rw [hg]; exact (below_size (by repeat (first | (with_reducible first | exact HB.out | apply below_alloc | apply pw_below_drewN | apply below_drew1) | exact HB.out))) : w.heap.size ≤ gb289)); clear HB; have HB := n0_; have BK289 := n1_; have GW289 := n2_; have GE289 := n3_; clear n0_ n1_ n2_ n3_; clear hb hbox hg; have hcz56_0 : w55.cell? ⟨gb289, 0, none⟩ = some (.string a0_0) := (blk_cell BK289.out 0).trans rfl; have hcz56_1 : w55.cell? ⟨gb289, 1, none⟩ = some (.string a0_1) := (blk_cell BK289.out 1).trans rfl; have hfz56_0 := blk_frozen BK289.out 0; have hfz56_1 := blk_frozen BK289.out 1) | ((with_reducible refine gate_callee (f := 42) rfl ?_); refine goesL_ (some 15) rfl rfl Tryd.func42 (by kernel_rfl) rfl #[.string a1] rfl (by (try simp only [List.map_toArray, List.map_cons, List.map_nil]); first | done | rfl | (simp only [List.length_drop, List.length_take]; rfl)) ?_; (with_reducible refine (spec_l6Parts.calls k a1 t290 t291 _ A6.out).mono ?_); rintro e w57 ⟨v292, rfl, ho0, hb⟩; refine ⟨_, rfl, ?_⟩; have n0_ := Aside0.mk (Kd.R_lower ho0 (below_size (by repeat (first | (with_reducible first | exact HB.out | apply below_alloc | apply pw_below_drewN | apply below_drew1 | refine below_set ?_ GE289.out) | exact HB.out)))); have n1_ := Aside0.mk (blk_below (g := gb289) (o := .cells #[.string a0_0, .string a0_1] 38 (0, 0)) (by (with_reducible repeat (first | refine blk_drewN ?_ _ | refine blk_drew ?_ | refine blk_alloc ?_ _)); exact BK289.out) hb); have n2_ := Aside0.mk (below_step (by repeat (first | (with_reducible first | exact HB.out | apply below_alloc | apply pw_below_drewN | apply below_drew1 | refine below_set ?_ GE289.out) | exact HB.out)) hb); clear BK289; clear HB; have HO293 := n0_; have BK289 := n1_; have HB := n2_; clear n0_ n1_ n2_; (try clear hb); (try clear hb2); (try clear hk); (try clear hi); (try clear ho0); have hcz58_0 : w57.cell? ⟨gb289, 0, none⟩ = some (.string a0_0) := (blk_cell BK289.out 0).trans rfl; have hcz58_1 : w57.cell? ⟨gb289, 1, none⟩ = some (.string a0_1) := (blk_cell BK289.out 1).trans rfl; have hfz58_0 := blk_frozen BK289.out 0; have hfz58_1 := blk_frozen BK289.out 1) | ((with_reducible refine gate_callee (f := 42) rfl ?_); refine goesL_ (some 21) rfl rfl Tryd.func42 (by kernel_rfl) rfl #[.string a0_1] rfl (by (try simp only [List.map_toArray, List.map_cons, List.map_nil]); first | done | rfl | (simp only [List.length_drop, List.length_take]; rfl)) ?_; (with_reducible refine (spec_l6Parts.calls k a0_1 t294 t295 _ A7.out).mono ?_); rintro e w59 ⟨v296, rfl, ho0, hb⟩; refine ⟨_, rfl, ?_⟩; have n0_ := Aside0.mk (Kd.R_elder' (by (with_reducible repeat (first | apply Kd.R_alloc | apply Kd.R_drewN | apply Kd.R_drew)); exact HO293.out) (Kd.R_base ho0) hb); have n1_ := Aside0.mk (Kd.R_lower (Kd.R_new' ho0 (Kd.R_lt (by (with_reducible repeat (first | apply Kd.R_alloc | apply Kd.R_drewN | apply Kd.R_drew)); exact HO293.out))) (below_size (by repeat (first | (with_reducible first | exact HB.out | apply below_alloc | apply pw_below_drewN | apply below_drew1 | refine below_set ?_ GE289.out) | exact HB.out)))); have n2_ := Aside0.mk (blk_below (g := gb289) (o := .cells #[.string a0_0, .string a0_1] 38 (0, 0)) (by (with_reducible repeat (first | refine blk_drewN ?_ _ | refine blk_drew ?_ | refine blk_alloc ?_ _)); exact BK289.out) hb); have n3_ := Aside0.mk (below_step (by repeat (first | (with_reducible first | exact HB.out | apply below_alloc | apply pw_below_drewN | apply below_drew1 | refine below_set ?_ GE289.out) | exact HB.out)) hb); clear HO293; clear BK289; clear HB; have HO293 := n0_; have HO297 := n1_; have BK289 := n2_; have HB := n3_; clear n0_ n1_ n2_ n3_; (try clear hb); (try clear hb2); (try clear hk); (try clear hi); (try clear ho0); obtain ⟨Ao60, co60, eo60⟩ := Kd.R_slice HO293.out; subst eo60; obtain ⟨Ao61, co61, eo61⟩ := Kd.R_slice HO297.out; subst eo61) | ((with_reducible refine gate_callee (f := 43) rfl ?_); refine goesL_ (some 26) rfl rfl Tryd.func43 (by kernel_rfl) rfl #[.slice Ao60 t290.length co60, .slice Ao61 t294.length co61] rfl (by (try simp only [List.map_toArray, List.map_cons, List.map_nil]); first | done | rfl | (simp only [List.length_drop, List.length_take]; rfl)) ?_; (with_reducible refine (spec_l6Compare.calls k _ _ t290 _ _ t294 t298 _ ?side1 ?side2 ?side3 ?side4 A8.out).mono ?_); (case side1 => repeat (first | exact (Kd.R_reads' HO293.out).2.2 | (with_reducible refine Kd.C_alloc ?_ _) | (with_reducible refine Kd.C_drewN ?_ _) | (with_reducible refine Kd.C_drew ?_))); (case side2 => exact (Kd.R_reads' HO293.out).2.1); (case side3 => repeat (first | exact (Kd.R_reads' HO297.out).2.2 | (with_reducible refine Kd.C_alloc ?_ _) | (with_reducible refine Kd.C_drewN ?_ _) | (with_reducible refine Kd.C_drew ?_))); (case side4 => exact (Kd.R_reads' HO297.out).2.1); rintro e w' ⟨rfl, ⟨nd, rfl⟩⟩; refine ⟨_, rfl, ?_⟩; have hcz62_0 : w59.cell? ⟨gb289, 0, none⟩ = some (.string a0_0) := (blk_cell BK289.out 0).trans rfl; have hcz62_1 : w59.cell? ⟨gb289, 1, none⟩ = some (.string a0_1) := (blk_cell BK289.out 1).trans rfl; have hfz62_0 := blk_frozen BK289.out 0; have hfz62_1 := blk_frozen BK289.out 1))
                go_ret
                exact ⟨by first | rfl | (simp [errW_none, errW_some] <;> rfl) | (simp [*, errW_none, errW_some] <;> rfl), by repeat (first | (with_reducible first | exact HB.out | apply below_alloc | apply pw_below_drewN | apply below_drew1 | refine below_set ?_ GE289.out) | exact HB.out)⟩
              · rw [if_neg c54] at H
                have c54b0 : (a0_0.toList == ([60, 61] : List UInt8)) = false := beq_eq_false_iff_ne.mpr c54
                have c54b1 : (a0_0.toList != ([60, 61] : List UInt8)) = true := bne_iff_ne.mpr c54
                by_cases c63 : a0_0.toList = ([94] : List UInt8)
                · rw [if_pos c63] at H
                  have c63b0 : (a0_0.toList == ([94] : List UInt8)) = true := beq_iff_eq.mpr c63
                  have c63b1 : (a0_0.toList != ([94] : List UInt8)) = false := bne_eq_false_iff_eq.mpr c63
                  clear c63
                  by_cases c64 : t298 ≥ 0
                  · rw [if_pos c64] at H
                    have c64b0 : decide (0 ≤ t298) = true := decide_eq_true c64
                    clear c64
                    replace H := Option.bind_eq_some_iff.mp H
                    obtain ⟨t299, A650, H⟩ := H
                    replace H : (some t299) = some r := H
                    have A65 := Aside0.mk A650
                    clear A650
                    obtain rfl := Option.some.inj H
                    go_enter Tryd.func29, Tryd.ntmps29
                    go_wp2_with (first | ((with_reducible refine gate_dst (N := 2) rfl ?_); refine box_event ?hg (N := 2) ?hd (cs := #[.string a0_0, .string a0_1]) (t := 38) ?hr ?_; (case hd => rfl); (case hg => rfl); (case hr => first | (go_simp; done) | (go_simp; rfl)); intro gb289 hg w66 hbox hb; have n0_ := Aside0.mk (below_step (by repeat (first | (with_reducible first | exact HB.out | apply below_alloc | apply pw_below_drewN | apply below_drew1) | exact HB.out)) hb); have n1_ := Aside0.mk (hbox); have n2_ := Aside0.mk ((by rw [hg]; exact (below_size (by repeat (first | (with_reducible first | exact HB.out | apply below_alloc | apply pw_below_drewN | apply below_drew1) | exact HB.out))) : w.heap.size ≤ gb289)); have n3_ := Aside0.mk ((by rw [hg]; exact (below_size (by repeat (first | (with_reducible first | exact HB.out | apply below_alloc | apply pw_below_drewN | apply below_drew1) | exact HB.out))) : w.heap.size ≤ gb289)); clear HB; have HB := n0_; have BK289 := n1_; have GW289 := n2_; have GE289 := n3_; clear n0_ n1_ n2_ n3_; clear hb hbox hg; have hcz67_0 : w66.cell? ⟨gb289, 0, none⟩ = some (.string a0_0) := (blk_cell BK289.out 0).trans rfl; have hcz67_1 : w66.cell? ⟨gb289, 1, none⟩ = some (.string a0_1) := (blk_cell BK289.out 1).trans rfl; have hfz67_0 := blk_frozen BK289.out 0; have hfz67_1 := blk_frozen BK289.out 1) | ((with_reducible refine gate_callee (f := 42) rfl ?_); refine goesL_ (some 15) rfl rfl Tryd.func42 (by kernel_rfl) rfl #[.string a1] rfl (by (try simp only [List.map_toArray, List.map_cons, List.map_nil]); first | done | rfl | (simp only [List.length_drop, List.length_take]; rfl)) ?_; (with_reducible refine (spec_l6Parts.calls k a1 t290 t291 _ A6.out).mono ?_); rintro e w68 ⟨v292, rfl, ho0, hb⟩; refine ⟨_, rfl, ?_⟩; have n0_ := Aside0.mk (Kd.R_lower ho0 (below_size (by repeat (first | (with_reducible first | exact HB.out | apply below_alloc | apply pw_below_drewN | apply below_drew1 | refine below_set ?_ GE289.out) | exact HB.out)))); have n1_ := Aside0.mk (blk_below (g := gb289) (o := .cells #[.string a0_0, .string a0_1] 38 (0, 0)) (by (with_reducible repeat (first | refine blk_drewN ?_ _ | refine blk_drew ?_ | refine blk_alloc ?_ _)); exact BK289.out) hb); have n2_ := Aside0.mk (below_step (by repeat (first | (with_reducible first | exact HB.out | apply below_alloc | apply pw_below_drewN | apply below_drew1 | refine below_set ?_ GE289.out) | exact HB.out)) hb); clear BK289; clear HB; have HO293 := n0_; have BK289 := n1_; have HB := n2_; clear n0_ n1_ n2_; (try clear hb); (try clear hb2); (try clear hk); (try clear hi); (try clear ho0); have hcz69_0 : w68.cell? ⟨gb289, 0, none⟩ = some (.string a0_0) := (blk_cell BK289.out 0).trans rfl; have hcz69_1 : w68.cell? ⟨gb289, 1, none⟩ = some (.string a0_1) := (blk_cell BK289.out 1).trans rfl; have hfz69_0 := blk_frozen BK289.out 0; have hfz69_1 := blk_frozen BK289.out 1) | ((with_reducible refine gate_callee (f := 42) rfl ?_); refine goesL_ (some 21) rfl rfl Tryd.func42 (by kernel_rfl) rfl #[.string a0_1] rfl (by (try simp only [List.map_toArray, List.map_cons, List.map_nil]); first | done | rfl | (simp only [List.length_drop, List.length_take]; rfl)) ?_; (with_reducible refine (spec_l6Parts.calls k a0_1 t294 t295 _ A7.out).mono ?_); rintro e w70 ⟨v296, rfl, ho0, hb⟩; refine ⟨_, rfl, ?_⟩; have n0_ := Aside0.mk (Kd.R_elder' (by (with_reducible repeat (first | apply Kd.R_alloc | apply Kd.R_drewN | apply Kd.R_drew)); exact HO293.out) (Kd.R_base ho0) hb); have n1_ := Aside0.mk (Kd.R_lower (Kd.R_new' ho0 (Kd.R_lt (by (with_reducible repeat (first | apply Kd.R_alloc | apply Kd.R_drewN | apply Kd.R_drew)); exact HO293.out))) (below_size (by repeat (first | (with_reducible first | exact HB.out | apply below_alloc | apply pw_below_drewN | apply below_drew1 | refine below_set ?_ GE289.out) | exact HB.out)))); have n2_ := Aside0.mk (blk_below (g := gb289) (o := .cells #[.string a0_0, .string a0_1] 38 (0, 0)) (by (with_reducible repeat (first | refine blk_drewN ?_ _ | refine blk_drew ?_ | refine blk_alloc ?_ _)); exact BK289.out) hb); have n3_ := Aside0.mk (below_step (by repeat (first | (with_reducible first | exact HB.out | apply below_alloc | apply pw_below_drewN | apply below_drew1 | refine below_set ?_ GE289.out) | exact HB.out)) hb); clear HO293; clear BK289; clear HB; have HO293 := n0_; have HO297 := n1_; have BK289 := n2_; have HB := n3_; clear n0_ n1_ n2_ n3_; (try clear hb); (try clear hb2); (try clear hk); (try clear hi); (try clear ho0); obtain ⟨Ao71, co71, eo71⟩ := Kd.R_slice HO293.out; subst eo71; obtain ⟨Ao72, co72, eo72⟩ := Kd.R_slice HO297.out; subst eo72) | ((with_reducible refine gate_callee (f := 43) rfl ?_); refine goesL_ (some 26) rfl rfl Tryd.func43 (by kernel_rfl) rfl #[.slice Ao71 t290.length co71, .slice Ao72 t294.length co72] rfl (by (try simp only [List.map_toArray, List.map_cons, List.map_nil]); first | done | rfl | (simp only [List.length_drop, List.length_take]; rfl)) ?_; (with_reducible refine (spec_l6Compare.calls k _ _ t290 _ _ t294 t298 _ ?side1 ?side2 ?side3 ?side4 A8.out).mono ?_); (case side1 => repeat (first | exact (Kd.R_reads' HO293.out).2.2 | (with_reducible refine Kd.C_alloc ?_ _) | (with_reducible refine Kd.C_drewN ?_ _) | (with_reducible refine Kd.C_drew ?_))); (case side2 => exact (Kd.R_reads' HO293.out).2.1); (case side3 => repeat (first | exact (Kd.R_reads' HO297.out).2.2 | (with_reducible refine Kd.C_alloc ?_ _) | (with_reducible refine Kd.C_drewN ?_ _) | (with_reducible refine Kd.C_drew ?_))); (case side4 => exact (Kd.R_reads' HO297.out).2.1); rintro e w' ⟨rfl, ⟨nd, rfl⟩⟩; refine ⟨_, rfl, ?_⟩; have hcz73_0 : w70.cell? ⟨gb289, 0, none⟩ = some (.string a0_0) := (blk_cell BK289.out 0).trans rfl; have hcz73_1 : w70.cell? ⟨gb289, 1, none⟩ = some (.string a0_1) := (blk_cell BK289.out 1).trans rfl; have hfz73_0 := blk_frozen BK289.out 0; have hfz73_1 := blk_frozen BK289.out 1) | (go_at_call 44; (with_reducible refine (spec_l6SamePart.calls _ _ t290 _ _ t294 0 t299 _ ?side1 ?side2 ?side3 ?side4 A65.out).mono ?_); (case side1 => repeat (first | exact (Kd.R_reads' HO293.out).2.2 | (with_reducible refine Kd.C_alloc ?_ _) | (with_reducible refine Kd.C_drewN ?_ _) | (with_reducible refine Kd.C_drew ?_))); (case side2 => exact (Kd.R_reads' HO293.out).2.1); (case side3 => repeat (first | exact (Kd.R_reads' HO297.out).2.2 | (with_reducible refine Kd.C_alloc ?_ _) | (with_reducible refine Kd.C_drewN ?_ _) | (with_reducible refine Kd.C_drew ?_))); (case side4 => exact (Kd.R_reads' HO297.out).2.1); rintro e w' ⟨rfl, ⟨nd, rfl⟩⟩))
                    go_ret
                    exact ⟨by first | rfl | (simp [errW_none, errW_some] <;> rfl) | (simp [*, errW_none, errW_some] <;> rfl), by repeat (first | (with_reducible first | exact HB.out | apply below_alloc | apply pw_below_drewN | apply below_drew1 | refine below_set ?_ GE289.out) | exact HB.out)⟩
                  · rw [if_neg c64] at H
                    have c64b0 : decide (0 ≤ t298) = false := decide_eq_false c64
                    clear c64
                    obtain rfl := Option.some.inj H
                    go_enter Tryd.func29, Tryd.ntmps29
                    go_wp2_with (first | ((with_reducible refine gate_dst (N := 2) rfl ?_); refine box_event ?hg (N := 2) ?hd (cs := #[.string a0_0, .string a0_1]) (t := 38) ?hr ?_; (case hd => rfl); (case hg => rfl); (case hr => first | (go_simp; done) | (go_simp; rfl)); intro gb289 hg w74 hbox hb; have n0_ := Aside0.mk (below_step (by repeat (first | (with_reducible first | exact HB.out | apply below_alloc | apply pw_below_drewN | apply below_drew1) | exact HB.out)) hb); have n1_ := Aside0.mk (hbox); have n2_ := Aside0.mk ((by rw [hg]; exact (below_size (by repeat (first | (with_reducible first | exact HB.out | apply below_alloc | apply pw_below_drewN | apply below_drew1) | exact HB.out))) : w.heap.size ≤ gb289)); have n3_ := Aside0.mk ((by rw [hg]; exact (below_size (by repeat (first | (with_reducible first | exact HB.out | apply below_alloc | apply pw_below_drewN | apply below_drew1) | exact HB.out))) : w.heap.size ≤ gb289)); clear HB; have HB := n0_; have BK289 := n1_; have GW289 := n2_; have GE289 := n3_; clear n0_ n1_ n2_ n3_; clear hb hbox hg; have hcz75_0 : w74.cell? ⟨gb289, 0, none⟩ = some (.string a0_0) := (blk_cell BK289.out 0).trans rfl; have hcz75_1 : w74.cell? ⟨gb289, 1, none⟩ = some (.string a0_1) := (blk_cell BK289.out 1).trans rfl; have hfz75_0 := blk_frozen BK289.out 0; have hfz75_1 := blk_frozen BK289.out 1) | ((with_reducible refine gate_callee (f := 42) rfl ?_); refine goesL_ (some 15) rfl rfl Tryd.func42 (by kernel_rfl) rfl #[.string a1] rfl (by (try simp only [List.map_toArray, List.map_cons, List.map_nil]); first | done | rfl | (simp only [List.length_drop, List.length_take]; rfl)) ?_; (with_reducible refine (spec_l6Parts.calls k a1 t290 t291 _ A6.out).mono ?_); rintro e w76 ⟨v292, rfl, ho0, hb⟩; refine ⟨_, rfl, ?_⟩; have n0_ := Aside0.mk (Kd.R_lower ho0 (below_size (by repeat (first | (with_reducible first | exact HB.out | apply below_alloc | apply pw_below_drewN | apply below_drew1 | refine below_set ?_ GE289.out) | exact HB.out)))); have n1_ := Aside0.mk (blk_below (g := gb289) (o := .cells #[.string a0_0, .string a0_1] 38 (0, 0)) (by (with_reducible repeat (first | refine blk_drewN ?_ _ | refine blk_drew ?_ | refine blk_alloc ?_ _)); exact BK289.out) hb); have n2_ := Aside0.mk (below_step (by repeat (first | (with_reducible first | exact HB.out | apply below_alloc | apply pw_below_drewN | apply below_drew1 | refine below_set ?_ GE289.out) | exact HB.out)) hb); clear BK289; clear HB; have HO293 := n0_; have BK289 := n1_; have HB := n2_; clear n0_ n1_ n2_; (try clear hb); (try clear hb2); (try clear hk); (try clear hi); (try clear ho0); have hcz77_0 : w76.cell? ⟨gb289, 0, none⟩ = some (.string a0_0) := (blk_cell BK289.out 0).trans rfl; have hcz77_1 : w76.cell? ⟨gb289, 1, none⟩ = some (.string a0_1) := (blk_cell BK289.out 1).trans rfl; have hfz77_0 := blk_frozen BK289.out 0; have hfz77_1 := blk_frozen BK289.out 1) | ((with_reducible refine gate_callee (f := 42) rfl ?_); refine goesL_ (some 21) rfl rfl Tryd.func42 (by kernel_rfl) rfl #[.string a0_1] rfl (by (try simp only [List.map_toArray, List.map_cons, List.map_nil]); first | done | rfl | (simp only [List.length_drop, List.length_take]; rfl)) ?_; (with_reducible refine (spec_l6Parts.calls k a0_1 t294 t295 _ A7.out).mono ?_); rintro e w78 ⟨v296, rfl, ho0, hb⟩; refine ⟨_, rfl, ?_⟩; have n0_ := Aside0.mk (Kd.R_elder' (by (with_reducible repeat (first | apply Kd.R_alloc | apply Kd.R_drewN | apply Kd.R_drew)); exact HO293.out) (Kd.R_base ho0) hb); have n1_ := Aside0.mk (Kd.R_lower (Kd.R_new' ho0 (Kd.R_lt (by (with_reducible repeat (first | apply Kd.R_alloc | apply Kd.R_drewN | apply Kd.R_drew)); exact HO293.out))) (below_size (by repeat (first | (with_reducible first | exact HB.out | apply below_alloc | apply pw_below_drewN | apply below_drew1 | refine below_set ?_ GE289.out) | exact HB.out)))); have n2_ := Aside0.mk (blk_below (g := gb289) (o := .cells #[.string a0_0, .string a0_1] 38 (0, 0)) (by (with_reducible repeat (first | refine blk_drewN ?_ _ | refine blk_drew ?_ | refine blk_alloc ?_ _)); exact BK289.out) hb); have n3_ := Aside0.mk (below_step (by repeat (first | (with_reducible first | exact HB.out | apply below_alloc | apply pw_below_drewN | apply below_drew1 | refine below_set ?_ GE289.out) | exact HB.out)) hb); clear HO293; clear BK289; clear HB; have HO293 := n0_; have HO297 := n1_; have BK289 := n2_; have HB := n3_; clear n0_ n1_ n2_ n3_; (try clear hb); (try clear hb2); (try clear hk); (try clear hi); (try clear ho0); obtain ⟨Ao79, co79, eo79⟩ := Kd.R_slice HO293.out; subst eo79; obtain ⟨Ao80, co80, eo80⟩ := Kd.R_slice HO297.out; subst eo80) | ((with_reducible refine gate_callee (f := 43) rfl ?_); refine goesL_ (some 26) rfl rfl Tryd.func43 (by kernel_rfl) rfl #[.slice Ao79 t290.length co79, .slice Ao80 t294.length co80] rfl (by (try simp only [List.map_toArray, List.map_cons, List.map_nil]); first | done | rfl | (simp only [List.length_drop, List.length_take]; rfl)) ?_; (with_reducible refine (spec_l6Compare.calls k _ _ t290 _ _ t294 t298 _ ?side1 ?side2 ?side3 ?side4 A8.out).mono ?_); (case side1 => repeat (first | exact (Kd.R_reads' HO293.out).2.2 | (with_reducible refine Kd.C_alloc ?_ _) | (with_reducible refine Kd.C_drewN ?_ _) | (with_reducible refine Kd.C_drew ?_))); (case side2 => exact (Kd.R_reads' HO293.out).2.1); (case side3 => repeat (first | exact (Kd.R_reads' HO297.out).2.2 | (with_reducible refine Kd.C_alloc ?_ _) | (with_reducible refine Kd.C_drewN ?_ _) | (with_reducible refine Kd.C_drew ?_))); (case side4 => exact (Kd.R_reads' HO297.out).2.1); rintro e w' ⟨rfl, ⟨nd, rfl⟩⟩; refine ⟨_, rfl, ?_⟩; have hcz81_0 : w78.cell? ⟨gb289, 0, none⟩ = some (.string a0_0) := (blk_cell BK289.out 0).trans rfl; have hcz81_1 : w78.cell? ⟨gb289, 1, none⟩ = some (.string a0_1) := (blk_cell BK289.out 1).trans rfl; have hfz81_0 := blk_frozen BK289.out 0; have hfz81_1 := blk_frozen BK289.out 1))
                    go_ret
                    exact ⟨by first | rfl | (simp [errW_none, errW_some] <;> rfl) | (simp [*, errW_none, errW_some] <;> rfl), by repeat (first | (with_reducible first | exact HB.out | apply below_alloc | apply pw_below_drewN | apply below_drew1 | refine below_set ?_ GE289.out) | exact HB.out)⟩
                · rw [if_neg c63] at H
                  have c63b0 : (a0_0.toList == ([94] : List UInt8)) = false := beq_eq_false_iff_ne.mpr c63
                  have c63b1 : (a0_0.toList != ([94] : List UInt8)) = true := bne_iff_ne.mpr c63
                  by_cases c82 : t298 ≥ 0
                  · rw [if_pos c82] at H
                    have c82b0 : decide (0 ≤ t298) = true := decide_eq_true c82
                    clear c82
                    replace H := Option.bind_eq_some_iff.mp H
                    obtain ⟨t300, A830, H⟩ := H
                    replace H : (if t300 = true then ((spec_l6SamePart.f t290 t294 1).bind fun t301 => (some t301)) else (some false)) = some r := H
                    have A83 := Aside0.mk A830
                    clear A830
                    by_cases c84 : t300 = true
                    · subst c84
                      have H1 : ((spec_l6SamePart.f t290 t294 1).bind fun t301 => (some t301)) = some r := by rw [if_pos rfl] at H; exact H
                      clear H
                      have H := H1
                      clear H1
                      replace H := Option.bind_eq_some_iff.mp H
                      obtain ⟨t301, A850, H⟩ := H
                      replace H : (some t301) = some r := H
                      have A85 := Aside0.mk A850
                      clear A850
                      obtain rfl := Option.some.inj H
                      go_enter Tryd.func29, Tryd.ntmps29
                      go_wp2_with (first | ((with_reducible refine gate_dst (N := 2) rfl ?_); refine box_event ?hg (N := 2) ?hd (cs := #[.string a0_0, .string a0_1]) (t := 38) ?hr ?_; (case hd => rfl); (case hg => rfl); (case hr => first | (go_simp; done) | (go_simp; rfl)); intro gb289 hg w86 hbox hb; have n0_ := Aside0.mk (below_step (by repeat (first | (with_reducible first | exact HB.out | apply below_alloc | apply pw_below_drewN | apply below_drew1) | exact HB.out)) hb); have n1_ := Aside0.mk (hbox); have n2_ := Aside0.mk ((by rw [hg]; exact (below_size (by repeat (first | (with_reducible first | exact HB.out | apply below_alloc | apply pw_below_drewN | apply below_drew1) | exact HB.out))) : w.heap.size ≤ gb289)); have n3_ := Aside0.mk ((by rw [hg]; exact (below_size (by repeat (first | (with_reducible first | exact HB.out | apply below_alloc | apply pw_below_drewN | apply below_drew1) | exact HB.out))) : w.heap.size ≤ gb289)); clear HB; have HB := n0_; have BK289 := n1_; have GW289 := n2_; have GE289 := n3_; clear n0_ n1_ n2_ n3_; clear hb hbox hg; have hcz87_0 : w86.cell? ⟨gb289, 0, none⟩ = some (.string a0_0) := (blk_cell BK289.out 0).trans rfl; have hcz87_1 : w86.cell? ⟨gb289, 1, none⟩ = some (.string a0_1) := (blk_cell BK289.out 1).trans rfl; have hfz87_0 := blk_frozen BK289.out 0; have hfz87_1 := blk_frozen BK289.out 1) | ((with_reducible refine gate_callee (f := 42) rfl ?_); refine goesL_ (some 15) rfl rfl Tryd.func42 (by kernel_rfl) rfl #[.string a1] rfl (by (try simp only [List.map_toArray, List.map_cons, List.map_nil]); first | done | rfl | (simp only [List.length_drop, List.length_take]; rfl)) ?_; (with_reducible refine (spec_l6Parts.calls k a1 t290 t291 _ A6.out).mono ?_); rintro e w88 ⟨v292, rfl, ho0, hb⟩; refine ⟨_, rfl, ?_⟩; have n0_ := Aside0.mk (Kd.R_lower ho0 (below_size (by repeat (first | (with_reducible first | exact HB.out | apply below_alloc | apply pw_below_drewN | apply below_drew1 | refine below_set ?_ GE289.out) | exact HB.out)))); have n1_ := Aside0.mk (blk_below (g := gb289) (o := .cells #[.string a0_0, .string a0_1] 38 (0, 0)) (by (with_reducible repeat (first | refine blk_drewN ?_ _ | refine blk_drew ?_ | refine blk_alloc ?_ _)); exact BK289.out) hb); have n2_ := Aside0.mk (below_step (by repeat (first | (with_reducible first | exact HB.out | apply below_alloc | apply pw_below_drewN | apply below_drew1 | refine below_set ?_ GE289.out) | exact HB.out)) hb); clear BK289; clear HB; have HO293 := n0_; have BK289 := n1_; have HB := n2_; clear n0_ n1_ n2_; (try clear hb); (try clear hb2); (try clear hk); (try clear hi); (try clear ho0); have hcz89_0 : w88.cell? ⟨gb289, 0, none⟩ = some (.string a0_0) := (blk_cell BK289.out 0).trans rfl; have hcz89_1 : w88.cell? ⟨gb289, 1, none⟩ = some (.string a0_1) := (blk_cell BK289.out 1).trans rfl; have hfz89_0 := blk_frozen BK289.out 0; have hfz89_1 := blk_frozen BK289.out 1) | ((with_reducible refine gate_callee (f := 42) rfl ?_); refine goesL_ (some 21) rfl rfl Tryd.func42 (by kernel_rfl) rfl #[.string a0_1] rfl (by (try simp only [List.map_toArray, List.map_cons, List.map_nil]); first | done | rfl | (simp only [List.length_drop, List.length_take]; rfl)) ?_; (with_reducible refine (spec_l6Parts.calls k a0_1 t294 t295 _ A7.out).mono ?_); rintro e w90 ⟨v296, rfl, ho0, hb⟩; refine ⟨_, rfl, ?_⟩; have n0_ := Aside0.mk (Kd.R_elder' (by (with_reducible repeat (first | apply Kd.R_alloc | apply Kd.R_drewN | apply Kd.R_drew)); exact HO293.out) (Kd.R_base ho0) hb); have n1_ := Aside0.mk (Kd.R_lower (Kd.R_new' ho0 (Kd.R_lt (by (with_reducible repeat (first | apply Kd.R_alloc | apply Kd.R_drewN | apply Kd.R_drew)); exact HO293.out))) (below_size (by repeat (first | (with_reducible first | exact HB.out | apply below_alloc | apply pw_below_drewN | apply below_drew1 | refine below_set ?_ GE289.out) | exact HB.out)))); have n2_ := Aside0.mk (blk_below (g := gb289) (o := .cells #[.string a0_0, .string a0_1] 38 (0, 0)) (by (with_reducible repeat (first | refine blk_drewN ?_ _ | refine blk_drew ?_ | refine blk_alloc ?_ _)); exact BK289.out) hb); have n3_ := Aside0.mk (below_step (by repeat (first | (with_reducible first | exact HB.out | apply below_alloc | apply pw_below_drewN | apply below_drew1 | refine below_set ?_ GE289.out) | exact HB.out)) hb); clear HO293; clear BK289; clear HB; have HO293 := n0_; have HO297 := n1_; have BK289 := n2_; have HB := n3_; clear n0_ n1_ n2_ n3_; (try clear hb); (try clear hb2); (try clear hk); (try clear hi); (try clear ho0); obtain ⟨Ao91, co91, eo91⟩ := Kd.R_slice HO293.out; subst eo91; obtain ⟨Ao92, co92, eo92⟩ := Kd.R_slice HO297.out; subst eo92) | ((with_reducible refine gate_callee (f := 43) rfl ?_); refine goesL_ (some 26) rfl rfl Tryd.func43 (by kernel_rfl) rfl #[.slice Ao91 t290.length co91, .slice Ao92 t294.length co92] rfl (by (try simp only [List.map_toArray, List.map_cons, List.map_nil]); first | done | rfl | (simp only [List.length_drop, List.length_take]; rfl)) ?_; (with_reducible refine (spec_l6Compare.calls k _ _ t290 _ _ t294 t298 _ ?side1 ?side2 ?side3 ?side4 A8.out).mono ?_); (case side1 => repeat (first | exact (Kd.R_reads' HO293.out).2.2 | (with_reducible refine Kd.C_alloc ?_ _) | (with_reducible refine Kd.C_drewN ?_ _) | (with_reducible refine Kd.C_drew ?_))); (case side2 => exact (Kd.R_reads' HO293.out).2.1); (case side3 => repeat (first | exact (Kd.R_reads' HO297.out).2.2 | (with_reducible refine Kd.C_alloc ?_ _) | (with_reducible refine Kd.C_drewN ?_ _) | (with_reducible refine Kd.C_drew ?_))); (case side4 => exact (Kd.R_reads' HO297.out).2.1); rintro e w' ⟨rfl, ⟨nd, rfl⟩⟩; refine ⟨_, rfl, ?_⟩; have hcz93_0 : w90.cell? ⟨gb289, 0, none⟩ = some (.string a0_0) := (blk_cell BK289.out 0).trans rfl; have hcz93_1 : w90.cell? ⟨gb289, 1, none⟩ = some (.string a0_1) := (blk_cell BK289.out 1).trans rfl; have hfz93_0 := blk_frozen BK289.out 0; have hfz93_1 := blk_frozen BK289.out 1) | (go_at_call 44; (with_reducible refine (spec_l6SamePart.calls _ _ t290 _ _ t294 0 true _ ?side1 ?side2 ?side3 ?side4 A83.out).mono ?_); (case side1 => repeat (first | exact (Kd.R_reads' HO293.out).2.2 | (with_reducible refine Kd.C_alloc ?_ _) | (with_reducible refine Kd.C_drewN ?_ _) | (with_reducible refine Kd.C_drew ?_))); (case side2 => exact (Kd.R_reads' HO293.out).2.1); (case side3 => repeat (first | exact (Kd.R_reads' HO297.out).2.2 | (with_reducible refine Kd.C_alloc ?_ _) | (with_reducible refine Kd.C_drewN ?_ _) | (with_reducible refine Kd.C_drew ?_))); (case side4 => exact (Kd.R_reads' HO297.out).2.1); rintro e w' ⟨rfl, ⟨nd, rfl⟩⟩) | (go_at_call 44; (with_reducible refine (spec_l6SamePart.calls _ _ t290 _ _ t294 1 t301 _ ?side1 ?side2 ?side3 ?side4 A85.out).mono ?_); (case side1 => repeat (first | exact (Kd.R_reads' HO293.out).2.2 | (with_reducible refine Kd.C_alloc ?_ _) | (with_reducible refine Kd.C_drewN ?_ _) | (with_reducible refine Kd.C_drew ?_))); (case side2 => exact (Kd.R_reads' HO293.out).2.1); (case side3 => repeat (first | exact (Kd.R_reads' HO297.out).2.2 | (with_reducible refine Kd.C_alloc ?_ _) | (with_reducible refine Kd.C_drewN ?_ _) | (with_reducible refine Kd.C_drew ?_))); (case side4 => exact (Kd.R_reads' HO297.out).2.1); rintro e w' ⟨rfl, ⟨nd, rfl⟩⟩))
                      go_ret
                      exact ⟨by first | rfl | (simp [errW_none, errW_some] <;> rfl) | (simp [*, errW_none, errW_some] <;> rfl), by repeat (first | (with_reducible first | exact HB.out | apply below_alloc | apply pw_below_drewN | apply below_drew1 | refine below_set ?_ GE289.out) | exact HB.out)⟩
                    · replace c84 := Bool.eq_false_iff.mpr c84
                      subst c84
                      have H1 : (some false) = some r := by rw [if_neg (show ¬ (false = true) by decide)] at H; exact H
                      clear H
                      have H := H1
                      clear H1
                      obtain rfl := Option.some.inj H
                      go_enter Tryd.func29, Tryd.ntmps29
                      go_wp2_with (first | ((with_reducible refine gate_dst (N := 2) rfl ?_); refine box_event ?hg (N := 2) ?hd (cs := #[.string a0_0, .string a0_1]) (t := 38) ?hr ?_; (case hd => rfl); (case hg => rfl); (case hr => first | (go_simp; done) | (go_simp; rfl)); intro gb289 hg w94 hbox hb; have n0_ := Aside0.mk (below_step (by repeat (first | (with_reducible first | exact HB.out | apply below_alloc | apply pw_below_drewN | apply below_drew1) | exact HB.out)) hb); have n1_ := Aside0.mk (hbox); have n2_ := Aside0.mk ((by rw [hg]; exact (below_size (by repeat (first | (with_reducible first | exact HB.out | apply below_alloc | apply pw_below_drewN | apply below_drew1) | exact HB.out))) : w.heap.size ≤ gb289)); have n3_ := Aside0.mk ((by rw [hg]; exact (below_size (by repeat (first | (with_reducible first | exact HB.out | apply below_alloc | apply pw_below_drewN | apply below_drew1) | exact HB.out))) : w.heap.size ≤ gb289)); clear HB; have HB := n0_; have BK289 := n1_; have GW289 := n2_; have GE289 := n3_; clear n0_ n1_ n2_ n3_; clear hb hbox hg; have hcz95_0 : w94.cell? ⟨gb289, 0, none⟩ = some (.string a0_0) := (blk_cell BK289.out 0).trans rfl; have hcz95_1 : w94.cell? ⟨gb289, 1, none⟩ = some (.string a0_1) := (blk_cell BK289.out 1).trans rfl; have hfz95_0 := blk_frozen BK289.out 0; have hfz95_1 := blk_frozen BK289.out 1) | ((with_reducible refine gate_callee (f := 42) rfl ?_); refine goesL_ (some 15) rfl rfl Tryd.func42 (by kernel_rfl) rfl #[.string a1] rfl (by (try simp only [List.map_toArray, List.map_cons, List.map_nil]); first | done | rfl | (simp only [List.length_drop, List.length_take]; rfl)) ?_; (with_reducible refine (spec_l6Parts.calls k a1 t290 t291 _ A6.out).mono ?_); rintro e w96 ⟨v292, rfl, ho0, hb⟩; refine ⟨_, rfl, ?_⟩; have n0_ := Aside0.mk (Kd.R_lower ho0 (below_size (by repeat (first | (with_reducible first | exact HB.out | apply below_alloc | apply pw_below_drewN | apply below_drew1 | refine below_set ?_ GE289.out) | exact HB.out)))); have n1_ := Aside0.mk (blk_below (g := gb289) (o := .cells #[.string a0_0, .string a0_1] 38 (0, 0)) (by (with_reducible repeat (first | refine blk_drewN ?_ _ | refine blk_drew ?_ | refine blk_alloc ?_ _)); exact BK289.out) hb); have n2_ := Aside0.mk (below_step (by repeat (first | (with_reducible first | exact HB.out | apply below_alloc | apply pw_below_drewN | apply below_drew1 | refine below_set ?_ GE289.out) | exact HB.out)) hb); clear BK289; clear HB; have HO293 := n0_; have BK289 := n1_; have HB := n2_; clear n0_ n1_ n2_; (try clear hb); (try clear hb2); (try clear hk); (try clear hi); (try clear ho0); have hcz97_0 : w96.cell? ⟨gb289, 0, none⟩ = some (.string a0_0) := (blk_cell BK289.out 0).trans rfl; have hcz97_1 : w96.cell? ⟨gb289, 1, none⟩ = some (.string a0_1) := (blk_cell BK289.out 1).trans rfl; have hfz97_0 := blk_frozen BK289.out 0; have hfz97_1 := blk_frozen BK289.out 1) | ((with_reducible refine gate_callee (f := 42) rfl ?_); refine goesL_ (some 21) rfl rfl Tryd.func42 (by kernel_rfl) rfl #[.string a0_1] rfl (by (try simp only [List.map_toArray, List.map_cons, List.map_nil]); first | done | rfl | (simp only [List.length_drop, List.length_take]; rfl)) ?_; (with_reducible refine (spec_l6Parts.calls k a0_1 t294 t295 _ A7.out).mono ?_); rintro e w98 ⟨v296, rfl, ho0, hb⟩; refine ⟨_, rfl, ?_⟩; have n0_ := Aside0.mk (Kd.R_elder' (by (with_reducible repeat (first | apply Kd.R_alloc | apply Kd.R_drewN | apply Kd.R_drew)); exact HO293.out) (Kd.R_base ho0) hb); have n1_ := Aside0.mk (Kd.R_lower (Kd.R_new' ho0 (Kd.R_lt (by (with_reducible repeat (first | apply Kd.R_alloc | apply Kd.R_drewN | apply Kd.R_drew)); exact HO293.out))) (below_size (by repeat (first | (with_reducible first | exact HB.out | apply below_alloc | apply pw_below_drewN | apply below_drew1 | refine below_set ?_ GE289.out) | exact HB.out)))); have n2_ := Aside0.mk (blk_below (g := gb289) (o := .cells #[.string a0_0, .string a0_1] 38 (0, 0)) (by (with_reducible repeat (first | refine blk_drewN ?_ _ | refine blk_drew ?_ | refine blk_alloc ?_ _)); exact BK289.out) hb); have n3_ := Aside0.mk (below_step (by repeat (first | (with_reducible first | exact HB.out | apply below_alloc | apply pw_below_drewN | apply below_drew1 | refine below_set ?_ GE289.out) | exact HB.out)) hb); clear HO293; clear BK289; clear HB; have HO293 := n0_; have HO297 := n1_; have BK289 := n2_; have HB := n3_; clear n0_ n1_ n2_ n3_; (try clear hb); (try clear hb2); (try clear hk); (try clear hi); (try clear ho0); obtain ⟨Ao99, co99, eo99⟩ := Kd.R_slice HO293.out; subst eo99; obtain ⟨Ao100, co100, eo100⟩ := Kd.R_slice HO297.out; subst eo100) | ((with_reducible refine gate_callee (f := 43) rfl ?_); refine goesL_ (some 26) rfl rfl Tryd.func43 (by kernel_rfl) rfl #[.slice Ao99 t290.length co99, .slice Ao100 t294.length co100] rfl (by (try simp only [List.map_toArray, List.map_cons, List.map_nil]); first | done | rfl | (simp only [List.length_drop, List.length_take]; rfl)) ?_; (with_reducible refine (spec_l6Compare.calls k _ _ t290 _ _ t294 t298 _ ?side1 ?side2 ?side3 ?side4 A8.out).mono ?_); (case side1 => repeat (first | exact (Kd.R_reads' HO293.out).2.2 | (with_reducible refine Kd.C_alloc ?_ _) | (with_reducible refine Kd.C_drewN ?_ _) | (with_reducible refine Kd.C_drew ?_))); (case side2 => exact (Kd.R_reads' HO293.out).2.1); (case side3 => repeat (first | exact (Kd.R_reads' HO297.out).2.2 | (with_reducible refine Kd.C_alloc ?_ _) | (with_reducible refine Kd.C_drewN ?_ _) | (with_reducible refine Kd.C_drew ?_))); (case side4 => exact (Kd.R_reads' HO297.out).2.1); rintro e w' ⟨rfl, ⟨nd, rfl⟩⟩; refine ⟨_, rfl, ?_⟩; have hcz101_0 : w98.cell? ⟨gb289, 0, none⟩ = some (.string a0_0) := (blk_cell BK289.out 0).trans rfl; have hcz101_1 : w98.cell? ⟨gb289, 1, none⟩ = some (.string a0_1) := (blk_cell BK289.out 1).trans rfl; have hfz101_0 := blk_frozen BK289.out 0; have hfz101_1 := blk_frozen BK289.out 1) | (go_at_call 44; (with_reducible refine (spec_l6SamePart.calls _ _ t290 _ _ t294 0 false _ ?side1 ?side2 ?side3 ?side4 A83.out).mono ?_); (case side1 => repeat (first | exact (Kd.R_reads' HO293.out).2.2 | (with_reducible refine Kd.C_alloc ?_ _) | (with_reducible refine Kd.C_drewN ?_ _) | (with_reducible refine Kd.C_drew ?_))); (case side2 => exact (Kd.R_reads' HO293.out).2.1); (case side3 => repeat (first | exact (Kd.R_reads' HO297.out).2.2 | (with_reducible refine Kd.C_alloc ?_ _) | (with_reducible refine Kd.C_drewN ?_ _) | (with_reducible refine Kd.C_drew ?_))); (case side4 => exact (Kd.R_reads' HO297.out).2.1); rintro e w' ⟨rfl, ⟨nd, rfl⟩⟩))
                      go_ret
                      exact ⟨by first | rfl | (simp [errW_none, errW_some] <;> rfl) | (simp [*, errW_none, errW_some] <;> rfl), by repeat (first | (with_reducible first | exact HB.out | apply below_alloc | apply pw_below_drewN | apply below_drew1 | refine below_set ?_ GE289.out) | exact HB.out)⟩
                  · rw [if_neg c82] at H
                    have c82b0 : decide (0 ≤ t298) = false := decide_eq_false c82
                    clear c82
                    obtain rfl := Option.some.inj H
                    go_enter Tryd.func29, Tryd.ntmps29
                    go_wp2_with (first | ((with_reducible refine gate_dst (N := 2) rfl ?_); refine box_event ?hg (N := 2) ?hd (cs := #[.string a0_0, .string a0_1]) (t := 38) ?hr ?_; (case hd => rfl); (case hg => rfl); (case hr => first | (go_simp; done) | (go_simp; rfl)); intro gb289 hg w102 hbox hb; have n0_ := Aside0.mk (below_step (by repeat (first | (with_reducible first | exact HB.out | apply below_alloc | apply pw_below_drewN | apply below_drew1) | exact HB.out)) hb); have n1_ := Aside0.mk (hbox); have n2_ := Aside0.mk ((by rw [hg]; exact (below_size (by repeat (first | (with_reducible first | exact HB.out | apply below_alloc | apply pw_below_drewN | apply below_drew1) | exact HB.out))) : w.heap.size ≤ gb289)); have n3_ := Aside0.mk ((by rw [hg]; exact (below_size (by repeat (first | (with_reducible first | exact HB.out | apply below_alloc | apply pw_below_drewN | apply below_drew1) | exact HB.out))) : w.heap.size ≤ gb289)); clear HB; have HB := n0_; have BK289 := n1_; have GW289 := n2_; have GE289 := n3_; clear n0_ n1_ n2_ n3_; clear hb hbox hg; have hcz103_0 : w102.cell? ⟨gb289, 0, none⟩ = some (.string a0_0) := (blk_cell BK289.out 0).trans rfl; have hcz103_1 : w102.cell? ⟨gb289, 1, none⟩ = some (.string a0_1) := (blk_cell BK289.out 1).trans rfl; have hfz103_0 := blk_frozen BK289.out 0; have hfz103_1 := blk_frozen BK289.out 1) | ((with_reducible refine gate_callee (f := 42) rfl ?_); refine goesL_ (some 15) rfl rfl Tryd.func42 (by kernel_rfl) rfl #[.string a1] rfl (by (try simp only [List.map_toArray, List.map_cons, List.map_nil]); first | done | rfl | (simp only [List.length_drop, List.length_take]; rfl)) ?_; (with_reducible refine (spec_l6Parts.calls k a1 t290 t291 _ A6.out).mono ?_); rintro e w104 ⟨v292, rfl, ho0, hb⟩; refine ⟨_, rfl, ?_⟩; have n0_ := Aside0.mk (Kd.R_lower ho0 (below_size (by repeat (first | (with_reducible first | exact HB.out | apply below_alloc | apply pw_below_drewN | apply below_drew1 | refine below_set ?_ GE289.out) | exact HB.out)))); have n1_ := Aside0.mk (blk_below (g := gb289) (o := .cells #[.string a0_0, .string a0_1] 38 (0, 0)) (by (with_reducible repeat (first | refine blk_drewN ?_ _ | refine blk_drew ?_ | refine blk_alloc ?_ _)); exact BK289.out) hb); have n2_ := Aside0.mk (below_step (by repeat (first | (with_reducible first | exact HB.out | apply below_alloc | apply pw_below_drewN | apply below_drew1 | refine below_set ?_ GE289.out) | exact HB.out)) hb); clear BK289; clear HB; have HO293 := n0_; have BK289 := n1_; have HB := n2_; clear n0_ n1_ n2_; (try clear hb); (try clear hb2); (try clear hk); (try clear hi); (try clear ho0); have hcz105_0 : w104.cell? ⟨gb289, 0, none⟩ = some (.string a0_0) := (blk_cell BK289.out 0).trans rfl; have hcz105_1 : w104.cell? ⟨gb289, 1, none⟩ = some (.string a0_1) := (blk_cell BK289.out 1).trans rfl; have hfz105_0 := blk_frozen BK289.out 0; have hfz105_1 := blk_frozen BK289.out 1) | ((with_reducible refine gate_callee (f := 42) rfl ?_); refine goesL_ (some 21) rfl rfl Tryd.func42 (by kernel_rfl) rfl #[.string a0_1] rfl (by (try simp only [List.map_toArray, List.map_cons, List.map_nil]); first | done | rfl | (simp only [List.length_drop, List.length_take]; rfl)) ?_; (with_reducible refine (spec_l6Parts.calls k a0_1 t294 t295 _ A7.out).mono ?_); rintro e w106 ⟨v296, rfl, ho0, hb⟩; refine ⟨_, rfl, ?_⟩; have n0_ := Aside0.mk (Kd.R_elder' (by (with_reducible repeat (first | apply Kd.R_alloc | apply Kd.R_drewN | apply Kd.R_drew)); exact HO293.out) (Kd.R_base ho0) hb); have n1_ := Aside0.mk (Kd.R_lower (Kd.R_new' ho0 (Kd.R_lt (by (with_reducible repeat (first | apply Kd.R_alloc | apply Kd.R_drewN | apply Kd.R_drew)); exact HO293.out))) (below_size (by repeat (first | (with_reducible first | exact HB.out | apply below_alloc | apply pw_below_drewN | apply below_drew1 | refine below_set ?_ GE289.out) | exact HB.out)))); have n2_ := Aside0.mk (blk_below (g := gb289) (o := .cells #[.string a0_0, .string a0_1] 38 (0, 0)) (by (with_reducible repeat (first | refine blk_drewN ?_ _ | refine blk_drew ?_ | refine blk_alloc ?_ _)); exact BK289.out) hb); have n3_ := Aside0.mk (below_step (by repeat (first | (with_reducible first | exact HB.out | apply below_alloc | apply pw_below_drewN | apply below_drew1 | refine below_set ?_ GE289.out) | exact HB.out)) hb); clear HO293; clear BK289; clear HB; have HO293 := n0_; have HO297 := n1_; have BK289 := n2_; have HB := n3_; clear n0_ n1_ n2_ n3_; (try clear hb); (try clear hb2); (try clear hk); (try clear hi); (try clear ho0); obtain ⟨Ao107, co107, eo107⟩ := Kd.R_slice HO293.out; subst eo107; obtain ⟨Ao108, co108, eo108⟩ := Kd.R_slice HO297.out; subst eo108) | ((with_reducible refine gate_callee (f := 43) rfl ?_); refine goesL_ (some 26) rfl rfl Tryd.func43 (by kernel_rfl) rfl #[.slice Ao107 t290.length co107, .slice Ao108 t294.length co108] rfl (by (try simp only [List.map_toArray, List.map_cons, List.map_nil]); first | done | rfl | (simp only [List.length_drop, List.length_take]; rfl)) ?_; (with_reducible refine (spec_l6Compare.calls k _ _ t290 _ _ t294 t298 _ ?side1 ?side2 ?side3 ?side4 A8.out).mono ?_); (case side1 => repeat (first | exact (Kd.R_reads' HO293.out).2.2 | (with_reducible refine Kd.C_alloc ?_ _) | (with_reducible refine Kd.C_drewN ?_ _) | (with_reducible refine Kd.C_drew ?_))); (case side2 => exact (Kd.R_reads' HO293.out).2.1); (case side3 => repeat (first | exact (Kd.R_reads' HO297.out).2.2 | (with_reducible refine Kd.C_alloc ?_ _) | (with_reducible refine Kd.C_drewN ?_ _) | (with_reducible refine Kd.C_drew ?_))); (case side4 => exact (Kd.R_reads' HO297.out).2.1); rintro e w' ⟨rfl, ⟨nd, rfl⟩⟩; refine ⟨_, rfl, ?_⟩; have hcz109_0 : w106.cell? ⟨gb289, 0, none⟩ = some (.string a0_0) := (blk_cell BK289.out 0).trans rfl; have hcz109_1 : w106.cell? ⟨gb289, 1, none⟩ = some (.string a0_1) := (blk_cell BK289.out 1).trans rfl; have hfz109_0 := blk_frozen BK289.out 0; have hfz109_1 := blk_frozen BK289.out 1))
                    go_ret
                    exact ⟨by first | rfl | (simp [errW_none, errW_some] <;> rfl) | (simp [*, errW_none, errW_some] <;> rfl), by repeat (first | (with_reducible first | exact HB.out | apply below_alloc | apply pw_below_drewN | apply below_drew1 | refine below_set ?_ GE289.out) | exact HB.out)⟩
end Go.Proofs.YthfohhpjanoimaaDoor.P
end

section
namespace Go.Proofs.YthfohhpjanoimaaDoor.P
open Go.RowKit Go.Proofs.YthfohhpjanoimaaDoorW.PrintWords Go.Proofs.YthfohhpjanoimaaDoorW.PrintLast Go.Proofs.YthfohhpjanoimaaDoorW.PrintMore Go.Proofs.YthfohhpjanoimaaDoorM
attribute [local go_sem] max2_int min2_int max_two min_two max_three min_three max_four min_four   -- for this text's walks alone
set_option linter.unusedVariables false
set_option linter.unusedSimpArgs false
mutual
def spec_Matches.j0 : Nat → ByteArray → List (List (S38)) → Bool → Option (Bool)
  | 0, _, _, _ => none
  | k + 1, x1, x5, x21 => if x21 = true then (some false) else (spec_Matches.l0 k x1 x5 0)
def spec_Matches.l0 : Nat → ByteArray → List (List (S38)) → Int → Option (Bool)
  | 0, _, _, _ => none
  | k + 1, x1, x5, x7 => if x7 < (x5.length : Int) then (spec_Matches.l1 k x1 x5 x7 true 0) else (some false)
def spec_Matches.l1 : Nat → ByteArray → List (List (S38)) → Int → Bool → Int → Option (Bool)
  | 0, _, _, _, _, _ => none
  | k + 1, x1, x5, x7, x8, x9 => if 0 ≤ x7 then (if x7 < (x5.length : Int) then (if x9 < ((rd_L4 x5 x7).length : Int) then (if x8 = true then (if 0 ≤ x9 then ((spec_l6Fits.f k ((rd_T38 (rd_L4 x5 x7) x9).f0) ((rd_T38 (rd_L4 x5 x7) x9).f1) x1).bind fun t310 => (spec_Matches.l1 k x1 x5 x7 t310 (wrap64 (x9 + 1)))) else (none)) else (spec_Matches.l1 k x1 x5 x7 false (wrap64 (x9 + 1)))) else (if x8 = true then (some true) else (spec_Matches.l0 k x1 x5 (wrap64 (x7 + 1))))) else (none)) else (none)
end
def spec_Matches.f (k : Nat) (a0 : ByteArray) (a1 : ByteArray) : Option (Bool) := (spec_ReadConstraint.f k a0).bind fun bt302 => (if bt302.2 = true then ((spec_VersionOk.f k a1).bind fun t306 => (spec_Matches.j0 k a1 bt302.1 (!t306))) else (spec_Matches.j0 k a1 bt302.1 true))
set_option maxHeartbeats 8000000 in
set_option maxRecDepth 100000 in
theorem spec_Matches.calls (k : Nat) (a0 : ByteArray) (a1 : ByteArray) (r : Bool) (w : World) (h : spec_Matches.f k a0 a1 = some r) :
    Calls Tryd.prog 11 #[.string a0, .string a1] w fun e w' => e = .returned (.bool r) ∧ Below w.heap.size w w' := by
  have hu38 := Tryd.underlying38
  have HB := Aside0.mk (Below.refl w.heap.size w)
  have H : ((spec_ReadConstraint.f k a0).bind fun bt302 => (if bt302.2 = true then ((spec_VersionOk.f k a1).bind fun t306 => (spec_Matches.j0 k a1 bt302.1 (!t306))) else (spec_Matches.j0 k a1 bt302.1 true))) = some r := h
  clear h
  replace H := Option.bind_eq_some_iff.mp H
  obtain ⟨⟨t302, t303⟩, A30, H⟩ := H
  replace H : (if t303 = true then ((spec_VersionOk.f k a1).bind fun t306 => (spec_Matches.j0 k a1 t302 (!t306))) else (spec_Matches.j0 k a1 t302 true)) = some r := H
  have A3 := Aside0.mk A30
  clear A30
  have HC4 := Aside0.mk H
  clear H
  go_enter Tryd.func11, Tryd.ntmps11
  go_upto_region 2 with (first | ((with_reducible refine gate_callee (f := 6) rfl ?_); refine goesL_ (some 12) rfl rfl Tryd.func6 (by kernel_rfl) rfl #[.string a0] rfl (by (try simp only [List.map_toArray, List.map_cons, List.map_nil]); first | done | rfl | (simp only [List.length_drop, List.length_take]; rfl)) ?_; (with_reducible refine (spec_ReadConstraint.calls k a0 t302 t303 _ A3.out).mono ?_); rintro e w5 ⟨v304, rfl, ho0, hb⟩; refine ⟨_, rfl, ?_⟩; have n0_ := Aside0.mk (Kd.S_lower ho0 (below_size (by repeat (first | (with_reducible first | exact HB.out | apply below_alloc | apply pw_below_drewN | apply below_drew1) | exact HB.out)))); have n1_ := Aside0.mk (below_step (by repeat (first | (with_reducible first | exact HB.out | apply below_alloc | apply pw_below_drewN | apply below_drew1) | exact HB.out)) hb); clear HB; have HO305 := n0_; have HB := n1_; clear n0_ n1_; (try clear hb); (try clear hb2); (try clear hk); (try clear hi); (try clear ho0)))
  (try simp only [Act.put, List.setIfInBounds_toArray, List.set_cons_zero, List.set_cons_succ])
  go_cut [21] (fun v21 wc => ∃ (kq : Nat) (x21_3 : Bool), v21 = .bool x21_3 ∧ Aside0 (spec_Matches.j0 kq a1 t302 x21_3 = some r) ∧ Aside0 (kq ≤ k) ∧ Aside0 (Kd.S (Kd.slice 38 k38) 36 wc w.heap.size (fun _ => True) v304 t302) ∧ Aside0 (Below w.heap.size w wc))
  case first =>
    have H := HC4.out
    clear HC4
    by_cases c6 : t303 = true
    · subst c6
      have H1 : ((spec_VersionOk.f k a1).bind fun t306 => (spec_Matches.j0 k a1 t302 (!t306))) = some r := by rw [if_pos rfl] at H; exact H
      clear H
      have H := H1
      clear H1
      replace H := Option.bind_eq_some_iff.mp H
      obtain ⟨t306, A70, H⟩ := H
      replace H : (spec_Matches.j0 k a1 t302 (!t306)) = some r := H
      have A7 := Aside0.mk A70
      clear A70
      have H' := Aside0.mk H
      clear H
      go_wp2_with (first | (go_at_call 28; (with_reducible refine (spec_VersionOk.calls k a1 t306 _ A7.out).mono ?_); rintro e w8 ⟨rfl, hb⟩; have n0_ := Aside0.mk (Kd.S_below (by (with_reducible repeat (first | apply Kd.S_alloc | apply Kd.S_drewN | apply Kd.S_drew)); exact HO305.out) hb); have n1_ := Aside0.mk (below_step (by repeat (first | (with_reducible first | exact HB.out | apply below_alloc | apply pw_below_drewN | apply below_drew1) | exact HB.out)) hb); clear HO305; clear HB; have HO305 := n0_; have HB := n1_; clear n0_ n1_; (try clear hb); (try clear hb2); (try clear hk); (try clear hi)))
      go_meet
      case rel => exact ⟨_, (!t306), (by first | rfl | (simp; done) | (simp [*]; done)), H', ⟨by first | omega | exact Nat.le_refl _⟩, ⟨by (with_reducible repeat (first | apply Kd.S_alloc | apply Kd.S_drewN | apply Kd.S_drew)); exact HO305.out⟩, ⟨by repeat (first | (with_reducible first | exact HB.out | apply below_alloc | apply pw_below_drewN | apply below_drew1) | exact HB.out)⟩⟩
    · replace c6 := Bool.eq_false_iff.mpr c6
      subst c6
      have H1 : (spec_Matches.j0 k a1 t302 true) = some r := by rw [if_neg (show ¬ (false = true) by decide)] at H; exact H
      clear H
      have H := H1
      clear H1
      have H' := Aside0.mk H
      clear H
      go_wp2
      go_meet
      case rel => exact ⟨_, (true), (by first | rfl | (simp; done) | (simp [*]; done)), H', ⟨by first | omega | exact Nat.le_refl _⟩, ⟨by (with_reducible repeat (first | apply Kd.S_alloc | apply Kd.S_drewN | apply Kd.S_drew)); exact HO305.out⟩, ⟨by repeat (first | (with_reducible first | exact HB.out | apply below_alloc | apply pw_below_drewN | apply below_drew1) | exact HB.out)⟩⟩
  case rest =>
    clear HC4
    try clear c1
    try clear p2
    try clear c6
    obtain ⟨kq, x21_3, rfl, HA, HJ3, HO_5, HB⟩ := hcut
    cases kq with
    | zero => exact absurd HA.out (by simp [spec_Matches.j0])
    | succ kj3 =>
      have H := HA.out
      clear HA
      simp only [spec_Matches.j0] at H
      by_cases c9 : x21_3 = true
      · subst c9
        have H1 : (some false) = some r := by rw [if_pos rfl] at H; exact H
        clear H
        have H := H1
        clear H1
        obtain rfl := Option.some.inj H
        go_wp2
        go_ret
        exact ⟨by first | rfl | (simp [errW_none, errW_some] <;> rfl) | (simp [*, errW_none, errW_some] <;> rfl), by repeat (first | (with_reducible first | exact HB.out | apply below_alloc | apply pw_below_drewN | apply below_drew1) | exact HB.out)⟩
      · replace c9 := Bool.eq_false_iff.mpr c9
        subst c9
        have H1 : (spec_Matches.l0 kj3 a1 t302 0) = some r := by rw [if_neg (show ¬ (false = true) by decide)] at H; exact H
        clear H
        have H := H1
        clear H1
        have H' := Aside0.mk H
        clear H
        go_wp2
        go_loopg [7] kj3 (fun kq v7 w' => ∃ (x7_2 : Int), v7 = .int .i64 x7_2 ∧ Aside0 (spec_Matches.l0 kq a1 t302 x7_2 = some r) ∧ Aside0 (kq ≤ kj3) ∧ Aside0 (Kd.S (Kd.slice 38 k38) 36 w' w.heap.size (fun _ => True) v304 t302) ∧ Aside0 (Below w.heap.size w w'))
        case atStart => exact ⟨(0), (by first | rfl | (simp; done) | (simp [*]; done)), H', ⟨Nat.le_refl _⟩, ⟨by (with_reducible repeat (first | apply Kd.S_alloc | apply Kd.S_drewN | apply Kd.S_drew)); exact HO_5.out⟩, ⟨by repeat (first | (with_reducible first | exact HB.out | apply below_alloc | apply pw_below_drewN | apply below_drew1) | exact HB.out)⟩⟩
        case round =>
          clear H'
          try clear c1
          try clear p2
          try clear c6
          try clear c9
          try clear p2
          obtain ⟨x7_2, rfl, HA, HK2, HO_5, HB⟩ := hrel
          cases gk with
          | zero => exact absurd HA.out (by simp [spec_Matches.l0])
          | succ k2 =>
            have H := HA.out
            clear HA
            simp only [spec_Matches.l0] at H
            by_cases c10 : x7_2 < (t302.length : Int)
            · rw [if_pos c10] at H
              have c10b0 : decide (x7_2 < (t302.length : Int)) = true := decide_eq_true c10
              clear c10
              have H' := Aside0.mk H
              clear H
              obtain ⟨Ao11, co11, eo11⟩ := Kd.S_slice HO_5.out
              subst eo11
              go_wp2
              go_loopg [8, 9] k2 (fun kq v8 v9 w' => ∃ (x8_3 : Bool) (x9_3 : Int), v8 = .bool x8_3 ∧ v9 = .int .i64 x9_3 ∧ Aside0 (spec_Matches.l1 kq a1 t302 x7_2 x8_3 x9_3 = some r) ∧ Aside0 (kq ≤ k2) ∧ Aside0 (Kd.S (Kd.slice 38 k38) 36 w' w.heap.size (fun _ => True) (.slice Ao11 t302.length co11) t302) ∧ Aside0 (Below w.heap.size w w'))
              case atStart => exact ⟨(true), (0), (by first | rfl | (simp; done) | (simp [*]; done)), (by first | rfl | (simp; done) | (simp [*]; done)), H', ⟨Nat.le_refl _⟩, ⟨by (with_reducible repeat (first | apply Kd.S_alloc | apply Kd.S_drewN | apply Kd.S_drew)); exact HO_5.out⟩, ⟨by repeat (first | (with_reducible first | exact HB.out | apply below_alloc | apply pw_below_drewN | apply below_drew1) | exact HB.out)⟩⟩
              case round =>
                clear H'
                try clear c1
                try clear p2
                try clear c6
                try clear c9
                try clear c10
                try clear c10b0
                try clear c11
                try clear p2
                obtain ⟨x8_3, x9_3, rfl, rfl, HA, HK3, HO_5, HB⟩ := hrel
                cases gk with
                | zero => exact absurd HA.out (by simp [spec_Matches.l1])
                | succ k3 =>
                  have H := HA.out
                  clear HA
                  simp only [spec_Matches.l1] at H
                  by_cases c12 : 0 ≤ x7_2
                  · rw [if_pos c12] at H
                    have c12b0 : decide (0 ≤ x7_2) = true := decide_eq_true c12
                    clear c12
                    by_cases c13 : x7_2 < (t302.length : Int)
                    · rw [if_pos c13] at H
                      have c13b0 : decide (x7_2 < (t302.length : Int)) = true := decide_eq_true c13
                      clear c13
                      by_cases c14 : x9_3 < ((rd_L4 t302 x7_2).length : Int)
                      · rw [if_pos c14] at H
                        have c14b0 : decide (x9_3 < ((rd_L4 t302 x7_2).length : Int)) = true := decide_eq_true c14
                        clear c14
                        by_cases c15 : x8_3 = true
                        · subst c15
                          have H1 : (if 0 ≤ x9_3 then ((spec_l6Fits.f k3 ((rd_T38 (rd_L4 t302 x7_2) x9_3).f0) ((rd_T38 (rd_L4 t302 x7_2) x9_3).f1) a1).bind fun t310 => (spec_Matches.l1 k3 a1 t302 x7_2 t310 (wrap64 (x9_3 + 1)))) else (none)) = some r := by rw [if_pos rfl] at H; exact H
                          clear H
                          have H := H1
                          clear H1
                          by_cases c16 : 0 ≤ x9_3
                          · rw [if_pos c16] at H
                            have c16b0 : decide (0 ≤ x9_3) = true := decide_eq_true c16
                            clear c16
                            replace H := Option.bind_eq_some_iff.mp H
                            obtain ⟨t310, A170, H⟩ := H
                            replace H : (spec_Matches.l1 k3 a1 t302 x7_2 t310 (wrap64 (x9_3 + 1))) = some r := H
                            have A17 := Aside0.mk A170
                            clear A170
                            have H' := Aside0.mk H
                            clear H
                            have p307 : 0 ≤ (x7_2 : Int) := of_decide_eq_true (by first | (with_reducible assumption) | assumption)
                            have q307 : x7_2 < (t302.length : Int) := of_decide_eq_true (by first | (with_reducible assumption) | assumption)
                            obtain ⟨ad307, A307_0, c307_0, e307, hx307_0, hl307_0, hi307_0⟩ := at_L4 (Kd.S_reads' HO_5.out).2.2 x7_2 p307 q307
                            cases e307
                            obtain ⟨ce307, hce307, hMe307, hcc307⟩ := Kd.S_get HO_5.out [] x7_2 p307 (by first | exact q307 | exact of_decide_eq_true (by first | (with_reducible assumption) | assumption) | (have e_ := (Kd.S_reads' HO_5.out).1; omega))
                            obtain ⟨ve307_0, rfl, ge307_0⟩ := hMe307
                            have hv307_0 := hcc307 0 _ rfl
                            rw [Nat.add_zero, show ((Kd.slice 38 k38)).sz = 1 from rfl, Nat.mul_one] at hv307_0
                            replace hv307_0 := Option.some.inj (hv307_0.symm.trans hx307_0)
                            rw [hv307_0] at ge307_0
                            have HL307_0 := Aside0.mk (show Kd.R k38 38 _ _ _ _ (rd_L4 t302 x7_2) from ge307_0)
                            clear hv307_0 ge307_0
                            clear hcc307 hce307
                            have HR307_0 := Aside0.mk hi307_0
                            have HC307_0 := Aside0.mk hl307_0
                            clear hi307_0 hl307_0
                            replace p307 := eq_true p307
                            replace q307 := eq_true q307
                            have p308 : 0 ≤ (x7_2 : Int) := of_decide_eq_true (by first | (with_reducible assumption) | assumption)
                            have q308 : x7_2 < (t302.length : Int) := of_decide_eq_true (by first | (with_reducible assumption) | assumption)
                            obtain ⟨ad308, A308_0, c308_0, e308, hx308_0, hl308_0, hi308_0⟩ := at_L4 (Kd.S_reads' HO_5.out).2.2 x7_2 p308 q308
                            obtain rfl : ad307 = ad308 := (by injection e308)
                            obtain ⟨ce308, hce308, hMe308, hcc308⟩ := Kd.S_get HO_5.out [] x7_2 p308 (by first | exact q308 | exact of_decide_eq_true (by first | (with_reducible assumption) | assumption) | (have e_ := (Kd.S_reads' HO_5.out).1; omega))
                            obtain ⟨ve308_0, rfl, ge308_0⟩ := hMe308
                            have hv308_0 := hcc308 0 _ rfl
                            rw [Nat.add_zero, show ((Kd.slice 38 k38)).sz = 1 from rfl, Nat.mul_one] at hv308_0
                            replace hv308_0 := Option.some.inj (hv308_0.symm.trans hx308_0)
                            rw [hv308_0] at ge308_0
                            have HL308_0 := Aside0.mk (show Kd.R k38 38 _ _ _ _ (rd_L4 t302 x7_2) from ge308_0)
                            clear hv308_0 ge308_0
                            clear hcc308 hce308
                            have HR308_0 := Aside0.mk hi308_0
                            have HC308_0 := Aside0.mk hl308_0
                            clear hi308_0 hl308_0
                            replace p308 := eq_true p308
                            replace q308 := eq_true q308
                            have ea_ := Option.some.inj (hx307_0.symm.trans hx308_0)
                            injection ea_ with ea_ en_ ec_
                            subst ea_
                            subst ec_
                            clear en_
                            have p309 : 0 ≤ (x9_3 : Int) := of_decide_eq_true (by first | (with_reducible assumption) | assumption)
                            have q309 : x9_3 < ((rd_L4 t302 x7_2).length : Int) := of_decide_eq_true (by first | (with_reducible assumption) | assumption)
                            obtain ⟨ad309, e309, hx309_0, hx309_1⟩ := at_T38 (by repeat (first | (with_reducible exact HR308_0.out) | (with_reducible refine Kd.C_alloc ?_ _) | (with_reducible refine Kd.C_drewN ?_ _) | (with_reducible refine Kd.C_drew ?_) | exact HR308_0.out)) x9_3 p309 q309
                            cases e309
                            replace p309 := eq_true p309
                            replace q309 := eq_true q309
                            go_wp2_with (first | (go_at_call 29; (with_reducible refine (spec_l6Fits.calls k3 ((rd_T38 (rd_L4 t302 x7_2) x9_3).f0) ((rd_T38 (rd_L4 t302 x7_2) x9_3).f1) a1 t310 _ A17.out).mono ?_); rintro e w18 ⟨rfl, hb⟩; have n0_ := Aside0.mk (Kd.S_below (by (with_reducible repeat (first | apply Kd.S_alloc | apply Kd.S_drewN | apply Kd.S_drew)); exact HO_5.out) hb); have n1_ := Aside0.mk (Kd.R_below (by (with_reducible repeat (first | apply Kd.R_alloc | apply Kd.R_drewN | apply Kd.R_drew)); exact HL307_0.out) hb); have n2_ := Aside0.mk (Kd.R_below (by (with_reducible repeat (first | apply Kd.R_alloc | apply Kd.R_drewN | apply Kd.R_drew)); exact HL308_0.out) hb); have n3_ := Aside0.mk (Kd.C_below (by repeat (first | (with_reducible exact HR307_0.out) | (with_reducible refine Kd.C_alloc ?_ _) | (with_reducible refine Kd.C_drewN ?_ _) | (with_reducible refine Kd.C_drew ?_) | exact HR307_0.out)) hb); have n4_ := Aside0.mk (Kd.C_below (by repeat (first | (with_reducible exact HR308_0.out) | (with_reducible refine Kd.C_alloc ?_ _) | (with_reducible refine Kd.C_drewN ?_ _) | (with_reducible refine Kd.C_drew ?_) | exact HR308_0.out)) hb); have n5_ := Aside0.mk (below_step (by repeat (first | (with_reducible first | exact HB.out | apply below_alloc | apply pw_below_drewN | apply below_drew1) | exact HB.out)) hb); clear HO_5; clear HL307_0; clear HL308_0; clear HR307_0; clear HR308_0; clear HB; have HO_5 := n0_; have HL307_0 := n1_; have HL308_0 := n2_; have HR307_0 := n3_; have HR308_0 := n4_; have HB := n5_; clear n0_ n1_ n2_ n3_ n4_ n5_; (try clear hb); (try clear hb2); (try clear hk); (try clear hi)))
                            go_roundg k3
                            case measure => have := HJ3.out; have := HK2.out; have := HK3.out; omega
                            case rel => exact ⟨(t310), (wrap64 (x9_3 + 1)), (by first | rfl | (simp; done) | (simp [*]; done)), (by first | rfl | (simp; done) | (simp [*]; done)), H', ⟨by have := HJ3.out; have := HK2.out; have := HK3.out; omega⟩, ⟨by (with_reducible repeat (first | apply Kd.S_alloc | apply Kd.S_drewN | apply Kd.S_drew)); exact HO_5.out⟩, ⟨by repeat (first | (with_reducible first | exact HB.out | apply below_alloc | apply pw_below_drewN | apply below_drew1) | exact HB.out)⟩⟩
                          · rw [if_neg c16] at H
                            exact absurd H (by simp)
                        · replace c15 := Bool.eq_false_iff.mpr c15
                          subst c15
                          have H1 : (spec_Matches.l1 k3 a1 t302 x7_2 false (wrap64 (x9_3 + 1))) = some r := by rw [if_neg (show ¬ (false = true) by decide)] at H; exact H
                          clear H
                          have H := H1
                          clear H1
                          have H' := Aside0.mk H
                          clear H
                          have p307 : 0 ≤ (x7_2 : Int) := of_decide_eq_true (by first | (with_reducible assumption) | assumption)
                          have q307 : x7_2 < (t302.length : Int) := of_decide_eq_true (by first | (with_reducible assumption) | assumption)
                          obtain ⟨ad307, A307_0, c307_0, e307, hx307_0, hl307_0, hi307_0⟩ := at_L4 (Kd.S_reads' HO_5.out).2.2 x7_2 p307 q307
                          cases e307
                          obtain ⟨ce307, hce307, hMe307, hcc307⟩ := Kd.S_get HO_5.out [] x7_2 p307 (by first | exact q307 | exact of_decide_eq_true (by first | (with_reducible assumption) | assumption) | (have e_ := (Kd.S_reads' HO_5.out).1; omega))
                          obtain ⟨ve307_0, rfl, ge307_0⟩ := hMe307
                          have hv307_0 := hcc307 0 _ rfl
                          rw [Nat.add_zero, show ((Kd.slice 38 k38)).sz = 1 from rfl, Nat.mul_one] at hv307_0
                          replace hv307_0 := Option.some.inj (hv307_0.symm.trans hx307_0)
                          rw [hv307_0] at ge307_0
                          have HL307_0 := Aside0.mk (show Kd.R k38 38 _ _ _ _ (rd_L4 t302 x7_2) from ge307_0)
                          clear hv307_0 ge307_0
                          clear hcc307 hce307
                          have HR307_0 := Aside0.mk hi307_0
                          have HC307_0 := Aside0.mk hl307_0
                          clear hi307_0 hl307_0
                          replace p307 := eq_true p307
                          replace q307 := eq_true q307
                          go_wp2
                          go_roundg k3
                          case measure => have := HJ3.out; have := HK2.out; have := HK3.out; omega
                          case rel => exact ⟨(false), (wrap64 (x9_3 + 1)), (by first | rfl | (simp; done) | (simp [*]; done)), (by first | rfl | (simp; done) | (simp [*]; done)), H', ⟨by have := HJ3.out; have := HK2.out; have := HK3.out; omega⟩, ⟨by (with_reducible repeat (first | apply Kd.S_alloc | apply Kd.S_drewN | apply Kd.S_drew)); exact HO_5.out⟩, ⟨by repeat (first | (with_reducible first | exact HB.out | apply below_alloc | apply pw_below_drewN | apply below_drew1) | exact HB.out)⟩⟩
                      · rw [if_neg c14] at H
                        have c14b0 : decide (x9_3 < ((rd_L4 t302 x7_2).length : Int)) = false := decide_eq_false c14
                        (try (have c14b0' := c14b0; simp only [hl308_0] at c14b0'))
                        clear c14
                        by_cases c19 : x8_3 = true
                        · subst c19
                          have H1 : (some true) = some r := by rw [if_pos rfl] at H; exact H
                          clear H
                          have H := H1
                          clear H1
                          obtain rfl := Option.some.inj H
                          have p307 : 0 ≤ (x7_2 : Int) := of_decide_eq_true (by first | (with_reducible assumption) | assumption)
                          have q307 : x7_2 < (t302.length : Int) := of_decide_eq_true (by first | (with_reducible assumption) | assumption)
                          obtain ⟨ad307, A307_0, c307_0, e307, hx307_0, hl307_0, hi307_0⟩ := at_L4 (Kd.S_reads' HO_5.out).2.2 x7_2 p307 q307
                          cases e307
                          obtain ⟨ce307, hce307, hMe307, hcc307⟩ := Kd.S_get HO_5.out [] x7_2 p307 (by first | exact q307 | exact of_decide_eq_true (by first | (with_reducible assumption) | assumption) | (have e_ := (Kd.S_reads' HO_5.out).1; omega))
                          obtain ⟨ve307_0, rfl, ge307_0⟩ := hMe307
                          have hv307_0 := hcc307 0 _ rfl
                          rw [Nat.add_zero, show ((Kd.slice 38 k38)).sz = 1 from rfl, Nat.mul_one] at hv307_0
                          replace hv307_0 := Option.some.inj (hv307_0.symm.trans hx307_0)
                          rw [hv307_0] at ge307_0
                          have HL307_0 := Aside0.mk (show Kd.R k38 38 _ _ _ _ (rd_L4 t302 x7_2) from ge307_0)
                          clear hv307_0 ge307_0
                          clear hcc307 hce307
                          have HR307_0 := Aside0.mk hi307_0
                          have HC307_0 := Aside0.mk hl307_0
                          clear hi307_0 hl307_0
                          replace p307 := eq_true p307
                          replace q307 := eq_true q307
                          go_wp2
                          go_ret
                          exact ⟨by first | rfl | (simp [errW_none, errW_some] <;> rfl) | (simp [*, errW_none, errW_some] <;> rfl), by repeat (first | (with_reducible first | exact HB.out | apply below_alloc | apply pw_below_drewN | apply below_drew1) | exact HB.out)⟩
                        · replace c19 := Bool.eq_false_iff.mpr c19
                          subst c19
                          have H1 : (spec_Matches.l0 k3 a1 t302 (wrap64 (x7_2 + 1))) = some r := by rw [if_neg (show ¬ (false = true) by decide)] at H; exact H
                          clear H
                          have H := H1
                          clear H1
                          have H' := Aside0.mk H
                          clear H
                          have p307 : 0 ≤ (x7_2 : Int) := of_decide_eq_true (by first | (with_reducible assumption) | assumption)
                          have q307 : x7_2 < (t302.length : Int) := of_decide_eq_true (by first | (with_reducible assumption) | assumption)
                          obtain ⟨ad307, A307_0, c307_0, e307, hx307_0, hl307_0, hi307_0⟩ := at_L4 (Kd.S_reads' HO_5.out).2.2 x7_2 p307 q307
                          cases e307
                          obtain ⟨ce307, hce307, hMe307, hcc307⟩ := Kd.S_get HO_5.out [] x7_2 p307 (by first | exact q307 | exact of_decide_eq_true (by first | (with_reducible assumption) | assumption) | (have e_ := (Kd.S_reads' HO_5.out).1; omega))
                          obtain ⟨ve307_0, rfl, ge307_0⟩ := hMe307
                          have hv307_0 := hcc307 0 _ rfl
                          rw [Nat.add_zero, show ((Kd.slice 38 k38)).sz = 1 from rfl, Nat.mul_one] at hv307_0
                          replace hv307_0 := Option.some.inj (hv307_0.symm.trans hx307_0)
                          rw [hv307_0] at ge307_0
                          have HL307_0 := Aside0.mk (show Kd.R k38 38 _ _ _ _ (rd_L4 t302 x7_2) from ge307_0)
                          clear hv307_0 ge307_0
                          clear hcc307 hce307
                          have HR307_0 := Aside0.mk hi307_0
                          have HC307_0 := Aside0.mk hl307_0
                          clear hi307_0 hl307_0
                          replace p307 := eq_true p307
                          replace q307 := eq_true q307
                          go_wp2
                          go_roundg k3
                          case measure => have := HJ3.out; have := HK2.out; have := HK3.out; omega
                          case rel => exact ⟨(wrap64 (x7_2 + 1)), (by first | rfl | (simp; done) | (simp [*]; done)), H', ⟨by have := HJ3.out; have := HK2.out; have := HK3.out; omega⟩, ⟨by (with_reducible repeat (first | apply Kd.S_alloc | apply Kd.S_drewN | apply Kd.S_drew)); exact HO_5.out⟩, ⟨by repeat (first | (with_reducible first | exact HB.out | apply below_alloc | apply pw_below_drewN | apply below_drew1) | exact HB.out)⟩⟩
                    · rw [if_neg c13] at H
                      exact absurd H (by simp)
                  · rw [if_neg c12] at H
                    exact absurd H (by simp)
            · rw [if_neg c10] at H
              have c10b0 : decide (x7_2 < (t302.length : Int)) = false := decide_eq_false c10
              (try (have c10b0' := c10b0; simp only [hl308_0] at c10b0'))
              clear c10
              obtain rfl := Option.some.inj H
              obtain ⟨Ao20, co20, eo20⟩ := Kd.S_slice HO_5.out
              subst eo20
              go_wp2
              go_ret
              exact ⟨by first | rfl | (simp [errW_none, errW_some] <;> rfl) | (simp [*, errW_none, errW_some] <;> rfl), by repeat (first | (with_reducible first | exact HB.out | apply below_alloc | apply pw_below_drewN | apply below_drew1) | exact HB.out)⟩
def impl_rank.f (l0 : List (S67)) (a1 : Int) : Option (Int) := if a1 ≥ (l0.length : Int) then (some 1) else (if 0 ≤ a1 then (if a1 < (l0.length : Int) then (if ((rd_T67 l0 a1).f1).toList = ([] : List UInt8) then (some 2) else (some 0)) else (none)) else (none))
set_option maxHeartbeats 8000000 in
set_option maxRecDepth 100000 in
theorem impl_rank.calls (A0 : Option Addr) (c0 : Nat) (l0 : List (S67)) (a1 : Int) (r : Int) (w : World) (hr0 : Kd.C k67 w A0 l0.length l0) (hc0 : l0.length ≤ c0) (h : impl_rank.f l0 a1 = some r) :
    Calls Tryd.prog 61 #[.slice A0 l0.length c0, .int .i64 a1] w fun e w' => e = .returned (.int .i64 r) ∧ Drawn0 w w' := by
  have HR0 := Aside0.mk hr0
  have HC0 := Aside0.mk hc0
  clear hr0 hc0
  have H : (if a1 ≥ (l0.length : Int) then (some 1) else (if 0 ≤ a1 then (if a1 < (l0.length : Int) then (if ((rd_T67 l0 a1).f1).toList = ([] : List UInt8) then (some 2) else (some 0)) else (none)) else (none))) = some r := h
  clear h
  by_cases c3 : a1 ≥ (l0.length : Int)
  · rw [if_pos c3] at H
    have c3b0 : decide ((l0.length : Int) ≤ a1) = true := decide_eq_true c3
    clear c3
    obtain rfl := Option.some.inj H
    go_enter Tryd.func61, Tryd.ntmps61
    go_wp2
    go_ret
    exact ⟨by first | rfl | (simp; done) | (simp [*]; done), by repeat (first | exact Drawn0.refl _ | apply Drawn0.step)⟩
  · rw [if_neg c3] at H
    have c3b0 : decide ((l0.length : Int) ≤ a1) = false := decide_eq_false c3
    clear c3
    by_cases c4 : 0 ≤ a1
    · rw [if_pos c4] at H
      have c4b0 : decide (0 ≤ a1) = true := decide_eq_true c4
      clear c4
      by_cases c5 : a1 < (l0.length : Int)
      · rw [if_pos c5] at H
        have c5b0 : decide (a1 < (l0.length : Int)) = true := decide_eq_true c5
        clear c5
        by_cases c6 : ((rd_T67 l0 a1).f1).toList = ([] : List UInt8)
        · rw [if_pos c6] at H
          have c6b0 : (((rd_T67 l0 a1).f1).toList == ([] : List UInt8)) = true := beq_iff_eq.mpr c6
          have c6b1 : (((rd_T67 l0 a1).f1).toList != ([] : List UInt8)) = false := bne_eq_false_iff_eq.mpr c6
          clear c6
          obtain rfl := Option.some.inj H
          have p311 : 0 ≤ (a1 : Int) := of_decide_eq_true (by first | (with_reducible assumption) | assumption)
          have q311 : a1 < (l0.length : Int) := of_decide_eq_true (by first | (with_reducible assumption) | assumption)
          obtain ⟨ad311, e311, hx311_0, hx311_1⟩ := at_T67 HR0.out a1 p311 q311
          cases e311
          replace p311 := eq_true p311
          replace q311 := eq_true q311
          go_enter Tryd.func61, Tryd.ntmps61
          go_wp2
          go_ret
          exact ⟨by first | rfl | (simp; done) | (simp [*]; done), by repeat (first | exact Drawn0.refl _ | apply Drawn0.step)⟩
        · rw [if_neg c6] at H
          have c6b0 : (((rd_T67 l0 a1).f1).toList == ([] : List UInt8)) = false := beq_eq_false_iff_ne.mpr c6
          have c6b1 : (((rd_T67 l0 a1).f1).toList != ([] : List UInt8)) = true := bne_iff_ne.mpr c6
          obtain rfl := Option.some.inj H
          have p311 : 0 ≤ (a1 : Int) := of_decide_eq_true (by first | (with_reducible assumption) | assumption)
          have q311 : a1 < (l0.length : Int) := of_decide_eq_true (by first | (with_reducible assumption) | assumption)
          obtain ⟨ad311, e311, hx311_0, hx311_1⟩ := at_T67 HR0.out a1 p311 q311
          cases e311
          replace p311 := eq_true p311
          replace q311 := eq_true q311
          go_enter Tryd.func61, Tryd.ntmps61
          go_wp2
          go_ret
          exact ⟨by first | rfl | (simp; done) | (simp [*]; done), by repeat (first | exact Drawn0.refl _ | apply Drawn0.step)⟩
      · rw [if_neg c5] at H
        exact absurd H (by simp)
    · rw [if_neg c4] at H
      exact absurd H (by simp)
def strings_Compare.f (a0 a1 : ByteArray) : Option Int := some (Lib.compareBytes a0.data.toList a1.data.toList)
theorem strings_Compare.calls (a0 a1 : ByteArray) (r : Int) (w : World) (h : strings_Compare.f a0 a1 = some r) :
    Calls Tryd.prog 62 #[.string a0, .string a1] w fun e w' => e = .returned (.int .i64 r) ∧ Drawn0 w w' := by
  obtain rfl := Option.some.inj h
  exact (Tryd.strings_Compare a0 a1 w).mono fun e w' ⟨he, hw⟩ => ⟨he, hw ▸ Drawn0.refl _⟩
end Go.Proofs.YthfohhpjanoimaaDoor.P
end
