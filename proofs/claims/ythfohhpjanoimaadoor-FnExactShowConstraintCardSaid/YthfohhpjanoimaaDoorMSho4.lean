/- Texts of Sho, put together by program. -/
import Derived.Test.YthfohhpjanoimaaDoorMSho3

section
namespace Go.Proofs.YthfohhpjanoimaaDoor.P
open Go.RowKit Go.Proofs.YthfohhpjanoimaaDoorW.PrintWords Go.Proofs.YthfohhpjanoimaaDoorW.PrintLast Go.Proofs.YthfohhpjanoimaaDoorW.PrintMore Go.Proofs.YthfohhpjanoimaaDoorM
attribute [local go_sem] max2_int min2_int max_two min_two max_three min_three max_four min_four   -- for this text's walks alone
set_option linter.unusedVariables false
set_option linter.unusedSimpArgs false
mutual
def impl_parts.j0 : Nat → ByteArray → Bool → Option ((List (S67)) × Bool)
  | 0, _, _ => none
  | k + 1, x0, x23 => if x23 = true then (some (([] : List (S67)), false)) else (impl_parts.l0 k x0 ([] : List (S67)) 0)
def impl_parts.l0 : Nat → ByteArray → List (S67) → Int → Option ((List (S67)) × Bool)
  | 0, _, _, _ => none
  | k + 1, x0, x4, x5 => if x5 < (x0.size : Int) then (if 0 ≤ x5 then ((impl_digit.f (bt x0 x5)).bind fun t180 => (if t180 = true then (impl_parts.l1 k x0 x4 x5 x5) else ((impl_letter.f (bt x0 x5)).bind fun t192 => (if t192 = true then (impl_parts.l2 k x0 x4 x5 x5) else (if (bt x0 x5) = 46 then (impl_parts.l0 k x0 x4 (wrap64 (x5 + 1))) else (if (bt x0 x5) = 45 then (impl_parts.l0 k x0 x4 (wrap64 (x5 + 1))) else (some (([] : List (S67)), false)))))))) else (none)) else (some (x4, true))
def impl_parts.l1 : Nat → ByteArray → List (S67) → Int → Int → Option ((List (S67)) × Bool)
  | 0, _, _, _, _ => none
  | k + 1, x0, x4, x5, x7 => if x7 < (x0.size : Int) then (if 0 ≤ x7 then ((impl_digit.f (bt x0 x7)).bind fun t181 => (if t181 = true then (impl_parts.l1 k x0 x4 x5 (wrap64 (x7 + 1))) else (if (wrap64 (x7 - x5)) > 15 then (some (([] : List (S67)), false)) else (if 0 ≤ x5 then (if x5 ≤ x7 then (if x7 ≤ (x0.size : Int) then ((strconv_ParseInt.f (x0.extract (x5 : Int).toNat (x7 : Int).toNat) 10 64).bind fun bt182 => (if x4.length < 5864062014805 then (impl_parts.l0 k x0 (x4 ++ [(⟨bt182.1, (⟨#[]⟩ : ByteArray)⟩ : S67)]) x7) else (none))) else (none)) else (none)) else (none))))) else (none)) else (if (wrap64 (x7 - x5)) > 15 then (some (([] : List (S67)), false)) else (if 0 ≤ x5 then (if x5 ≤ x7 then (if x7 ≤ (x0.size : Int) then ((strconv_ParseInt.f (x0.extract (x5 : Int).toNat (x7 : Int).toNat) 10 64).bind fun bt187 => (if x4.length < 5864062014805 then (impl_parts.l0 k x0 (x4 ++ [(⟨bt187.1, (⟨#[]⟩ : ByteArray)⟩ : S67)]) x7) else (none))) else (none)) else (none)) else (none)))
def impl_parts.l2 : Nat → ByteArray → List (S67) → Int → Int → Option ((List (S67)) × Bool)
  | 0, _, _, _, _ => none
  | k + 1, x0, x4, x5, x7 => if x7 < (x0.size : Int) then (if 0 ≤ x7 then ((impl_letter.f (bt x0 x7)).bind fun t193 => (if t193 = true then (impl_parts.l2 k x0 x4 x5 (wrap64 (x7 + 1))) else (if 0 ≤ x5 then (if x5 ≤ x7 then (if x7 ≤ (x0.size : Int) then (if x4.length < 5864062014805 then (impl_parts.l0 k x0 (x4 ++ [(⟨0, x0.extract (x5 : Int).toNat (x7 : Int).toNat⟩ : S67)]) x7) else (none)) else (none)) else (none)) else (none)))) else (none)) else (if 0 ≤ x5 then (if x5 ≤ x7 then (if x7 ≤ (x0.size : Int) then (if x4.length < 5864062014805 then (impl_parts.l0 k x0 (x4 ++ [(⟨0, x0.extract (x5 : Int).toNat (x7 : Int).toNat⟩ : S67)]) x7) else (none)) else (none)) else (none)) else (none))
end
def impl_parts.f (k : Nat) (a0 : ByteArray) : Option ((List (S67)) × Bool) := if (a0.size : Int) < 1 then (impl_parts.j0 k a0 true) else (if (a0.size : Int) > 30 then (impl_parts.j0 k a0 true) else (if 0 < (a0.size : Int) then ((impl_digit.f (bt a0 0)).bind fun t179 => (impl_parts.j0 k a0 (!t179))) else (none)))
set_option maxHeartbeats 8000000 in
set_option maxRecDepth 100000 in
theorem impl_parts.calls (k : Nat) (a0 : ByteArray) (r1 : List (S67)) (r2 : Bool) (w : World) (h : impl_parts.f k a0 = some (r1, r2)) :
    Calls Tryd.prog 38 #[.string a0] w fun e w' => ∃ v0_ : Value, e = .returned (.tuple #[v0_, .bool r2]) ∧ Kd.R k67 67 w' w.heap.size (fun _ => True) v0_ r1 ∧ Below w.heap.size w w' := by
  have hu67 := Tryd.underlying67
  have HB := Aside0.mk (Below.refl w.heap.size w)
  have H : (if (a0.size : Int) < 1 then (impl_parts.j0 k a0 true) else (if (a0.size : Int) > 30 then (impl_parts.j0 k a0 true) else (if 0 < (a0.size : Int) then ((impl_digit.f (bt a0 0)).bind fun t179 => (impl_parts.j0 k a0 (!t179))) else (none)))) = some (r1, r2) := h
  clear h
  have HC2 := Aside0.mk H
  clear H
  go_enter Tryd.func38, Tryd.ntmps38
  go_upto_region 1 with (fail)
  go_cut [23] (fun v23 wc => ∃ (kq : Nat) (x23_1 : Bool), v23 = .bool x23_1 ∧ Aside0 (impl_parts.j0 kq a0 x23_1 = some (r1, r2)) ∧ Aside0 (kq ≤ k) ∧ Aside0 (Below w.heap.size w wc))
  case first =>
    have H := HC2.out
    clear HC2
    by_cases c3 : (a0.size : Int) < 1
    · rw [if_pos c3] at H
      have c3b0 : decide ((a0.size : Int) < 1) = true := decide_eq_true c3
      have c3b1 : decide (a0.size < 1) = true := decide_eq_true (by omega)
      clear c3
      (first | rw [c3b0] | (simp only [i64_w, i32_w]; rw [c3b0]) | skip)
      have H' := Aside0.mk H
      clear H
      go_wp2
      go_meet
      case rel => exact ⟨_, (true), (by first | rfl | (simp; done) | (simp [*]; done)), H', ⟨by first | omega | exact Nat.le_refl _⟩, ⟨by repeat (first | (with_reducible first | exact HB.out | apply below_alloc | apply pw_below_drewN | apply below_drew1) | exact HB.out)⟩⟩
    · rw [if_neg c3] at H
      have c3b0 : decide ((a0.size : Int) < 1) = false := decide_eq_false c3
      have c3b1 : decide (a0.size < 1) = false := decide_eq_false (by omega)
      clear c3
      (first | rw [c3b0] | (simp only [i64_w, i32_w]; rw [c3b0]) | skip)
      by_cases c4 : (a0.size : Int) > 30
      · rw [if_pos c4] at H
        have c4b0 : decide (30 < (a0.size : Int)) = true := decide_eq_true c4
        have c4b1 : decide (30 < a0.size) = true := decide_eq_true (by omega)
        clear c4
        have H' := Aside0.mk H
        clear H
        go_wp2
        go_meet
        case rel => exact ⟨_, (true), (by first | rfl | (simp; done) | (simp [*]; done)), H', ⟨by first | omega | exact Nat.le_refl _⟩, ⟨by repeat (first | (with_reducible first | exact HB.out | apply below_alloc | apply pw_below_drewN | apply below_drew1) | exact HB.out)⟩⟩
      · rw [if_neg c4] at H
        have c4b0 : decide (30 < (a0.size : Int)) = false := decide_eq_false c4
        have c4b1 : decide (30 < a0.size) = false := decide_eq_false (by omega)
        clear c4
        by_cases c5 : 0 < (a0.size : Int)
        · rw [if_pos c5] at H
          have c5b0 : decide (0 < (a0.size : Int)) = true := decide_eq_true c5
          have c5b1 : decide (0 < a0.size) = true := decide_eq_true (by omega)
          clear c5
          replace H := Option.bind_eq_some_iff.mp H
          obtain ⟨t179, A70, H⟩ := H
          replace H : (impl_parts.j0 k a0 (!t179)) = some (r1, r2) := H
          have A7 := Aside0.mk A70
          clear A70
          have H' := Aside0.mk H
          clear H
          have p6 : 0 ≤ (0 : Int) := (by omega)
          have q6 : 0 < a0.size := (by have : (0 : Int) < (a0.size : Int) := of_decide_eq_true (by first | (with_reducible assumption) | assumption); omega)
          have hx6 : ∀ h : 0 < a0.size, ((a0[0]'h).toNat : Int) = bt a0 0 := bt_at a0 0
          clear p6
          have qi6 : (0 < (a0.size : Int)) = True := eq_true (of_decide_eq_true (by first | (with_reducible assumption) | assumption))
          replace q6 := eq_true q6
          go_wp2_with (first | (go_at_call 55; (with_reducible refine (impl_digit.calls (bt a0 0) t179 _ A7.out).mono ?_); rintro e w' ⟨rfl, ⟨nd, rfl⟩⟩))
          go_meet
          case rel => exact ⟨_, (!t179), (by first | rfl | (simp; done) | (simp [*]; done)), H', ⟨by first | omega | exact Nat.le_refl _⟩, ⟨by repeat (first | (with_reducible first | exact HB.out | apply below_alloc | apply pw_below_drewN | apply below_drew1) | exact HB.out)⟩⟩
        · rw [if_neg c5] at H
          exact absurd H (by simp)
  case rest =>
    clear HC2
    try clear p2
    try clear c3
    try clear c3b0
    try clear c3b1
    try clear c4
    try clear c4b0
    try clear c4b1
    try clear c5
    try clear c5b0
    try clear c5b1
    try clear p6
    try clear q6
    try clear hx6
    try clear qi6
    try clear p6
    try clear q6
    obtain ⟨kq, x23_1, rfl, HA, HJ1, HB⟩ := hcut
    cases kq with
    | zero => exact absurd HA.out (by simp [impl_parts.j0])
    | succ kj1 =>
      have H := HA.out
      clear HA
      simp only [impl_parts.j0] at H
      by_cases c8 : x23_1 = true
      · subst c8
        have H1 : (some (([] : List (S67)), false)) = some (r1, r2) := by rw [if_pos rfl] at H; exact H
        clear H
        have H := H1
        clear H1
        simp only [Option.some.injEq, Prod.mk.injEq] at H
        obtain ⟨rfl, rfl⟩ := H
        go_wp2
        go_ret2
        exact ⟨_, by first | rfl | (simp [errW_none, errW_some] <;> rfl) | (simp [*, errW_none, errW_some] <;> rfl), by first | exact Kd.R_nil _ _ _ _ _ | exact Kd.N_nil _ _ _ _ _ | exact Kd.V_nil _ _ _ _ _ | exact Kd.Q_nil _ _ _ _ _ | exact Kd.S_nil _ _ _ _ _, by repeat (first | (with_reducible first | exact HB.out | apply below_alloc | apply pw_below_drewN | apply below_drew1) | exact HB.out)⟩
      · replace c8 := Bool.eq_false_iff.mpr c8
        subst c8
        have H1 : (impl_parts.l0 kj1 a0 ([] : List (S67)) 0) = some (r1, r2) := by rw [if_neg (show ¬ (false = true) by decide)] at H; exact H
        clear H
        have H := H1
        clear H1
        have H' := Aside0.mk H
        clear H
        go_wp2
        go_loopg [4, 5] kj1 (fun kq v4 v5 w' => ∃ (x4_2 : List (S67)) (x5_2 : Int), v5 = .int .i64 x5_2 ∧ Aside0 (impl_parts.l0 kq a0 x4_2 x5_2 = some (r1, r2)) ∧ Aside0 (kq ≤ kj1) ∧ Aside0 (Kd.R k67 67 w' w.heap.size (fun _ => True) v4 x4_2) ∧ Aside0 (Below w.heap.size w w'))
        case atStart => exact ⟨(([] : List (S67))), (0), (by first | rfl | (simp; done) | (simp [*]; done)), H', ⟨Nat.le_refl _⟩, ⟨by first | exact Kd.R_nil _ _ _ _ _ | exact Kd.N_nil _ _ _ _ _ | exact Kd.V_nil _ _ _ _ _ | exact Kd.Q_nil _ _ _ _ _ | exact Kd.S_nil _ _ _ _ _⟩, ⟨by repeat (first | (with_reducible first | exact HB.out | apply below_alloc | apply pw_below_drewN | apply below_drew1) | exact HB.out)⟩⟩
        case round =>
          clear H'
          try clear p2
          try clear c3
          try clear c3b0
          try clear c3b1
          try clear c4
          try clear c4b0
          try clear c4b1
          try clear c5
          try clear c5b0
          try clear c5b1
          try clear p6
          try clear q6
          try clear hx6
          try clear qi6
          try clear c8
          try clear p2
          try clear p6
          try clear q6
          obtain ⟨x4_2, x5_2, rfl, HA, HK2, HO_4, HB⟩ := hrel
          cases gk with
          | zero => exact absurd HA.out (by simp [impl_parts.l0])
          | succ k2 =>
            have H := HA.out
            clear HA
            simp only [impl_parts.l0] at H
            by_cases c9 : x5_2 < (a0.size : Int)
            · rw [if_pos c9] at H
              have c9b0 : decide (x5_2 < (a0.size : Int)) = true := decide_eq_true c9
              clear c9
              by_cases c10 : 0 ≤ x5_2
              · rw [if_pos c10] at H
                have c10b0 : decide (0 ≤ x5_2) = true := decide_eq_true c10
                clear c10
                replace H := Option.bind_eq_some_iff.mp H
                obtain ⟨t180, A120, H⟩ := H
                replace H : (if t180 = true then (impl_parts.l1 k2 a0 x4_2 x5_2 x5_2) else ((impl_letter.f (bt a0 x5_2)).bind fun t192 => (if t192 = true then (impl_parts.l2 k2 a0 x4_2 x5_2 x5_2) else (if (bt a0 x5_2) = 46 then (impl_parts.l0 k2 a0 x4_2 (wrap64 (x5_2 + 1))) else (if (bt a0 x5_2) = 45 then (impl_parts.l0 k2 a0 x4_2 (wrap64 (x5_2 + 1))) else (some (([] : List (S67)), false))))))) = some (r1, r2) := H
                have A12 := Aside0.mk A120
                clear A120
                by_cases c13 : t180 = true
                · subst c13
                  have H1 : (impl_parts.l1 k2 a0 x4_2 x5_2 x5_2) = some (r1, r2) := by rw [if_pos rfl] at H; exact H
                  clear H
                  have H := H1
                  clear H1
                  have H' := Aside0.mk H
                  clear H
                  have p11 : 0 ≤ (x5_2 : Int) := of_decide_eq_true (by first | (with_reducible assumption) | assumption)
                  have q11 : x5_2 < (a0.size : Int) := of_decide_eq_true (by first | (with_reducible assumption) | assumption)
                  have hx11 := bt_at a0 x5_2
                  replace p11 := eq_true p11
                  replace q11 := eq_true q11
                  go_wp2_with (first | ((with_reducible refine gate_callee (f := 55) rfl ?_); refine goesL_ (some 34) rfl rfl Tryd.func55 (by kernel_rfl) rfl #[.int .u8 (bt a0 x5_2)] rfl (by (try simp only [List.map_toArray, List.map_cons, List.map_nil]); first | done | rfl | (simp only [List.length_drop, List.length_take]; rfl)) ?_; (with_reducible refine (impl_digit.calls (bt a0 x5_2) true _ A12.out).mono ?_); rintro e w' ⟨rfl, ⟨nd, rfl⟩⟩; refine ⟨_, rfl, ?_⟩))
                  go_loopg [7] k2 (fun kq v7 w' => ∃ (x7_3 : Int), v7 = .int .i64 x7_3 ∧ Aside0 (impl_parts.l1 kq a0 x4_2 x5_2 x7_3 = some (r1, r2)) ∧ Aside0 (kq ≤ k2) ∧ Aside0 (Kd.R k67 67 w' w.heap.size (fun _ => True) u4 x4_2) ∧ Aside0 (Below w.heap.size w w'))
                  case atStart => exact ⟨(x5_2), (by first | rfl | (simp; done) | (simp [*]; done)), H', ⟨Nat.le_refl _⟩, ⟨by (with_reducible repeat (first | apply Kd.R_alloc | apply Kd.R_drewN | apply Kd.R_drew)); exact HO_4.out⟩, ⟨by repeat (first | (with_reducible first | exact HB.out | apply below_alloc | apply pw_below_drewN | apply below_drew1) | exact HB.out)⟩⟩
                  case round =>
                    clear H'
                    try clear c1
                    try clear p1
                    try clear q1
                    try clear hx1
                    try clear p2
                    try clear c3
                    try clear c3b0
                    try clear c3b1
                    try clear c4
                    try clear c4b0
                    try clear c4b1
                    try clear c5
                    try clear c5b0
                    try clear c5b1
                    try clear p6
                    try clear q6
                    try clear hx6
                    try clear qi6
                    try clear c8
                    try clear c9
                    try clear c9b0
                    try clear c10
                    try clear c10b0
                    try clear p11
                    try clear q11
                    try clear hx11
                    try clear c13
                    try clear p11
                    try clear p2
                    try clear p6
                    try clear q11
                    try clear q6
                    obtain ⟨x7_3, rfl, HA, HK3, HO_4, HB⟩ := hrel
                    cases gk with
                    | zero => exact absurd HA.out (by simp [impl_parts.l1])
                    | succ k3 =>
                      have H := HA.out
                      clear HA
                      simp only [impl_parts.l1] at H
                      by_cases c14 : x7_3 < (a0.size : Int)
                      · rw [if_pos c14] at H
                        have c14b0 : decide (x7_3 < (a0.size : Int)) = true := decide_eq_true c14
                        clear c14
                        by_cases c15 : 0 ≤ x7_3
                        · rw [if_pos c15] at H
                          have c15b0 : decide (0 ≤ x7_3) = true := decide_eq_true c15
                          clear c15
                          replace H := Option.bind_eq_some_iff.mp H
                          obtain ⟨t181, A170, H⟩ := H
                          replace H : (if t181 = true then (impl_parts.l1 k3 a0 x4_2 x5_2 (wrap64 (x7_3 + 1))) else (if (wrap64 (x7_3 - x5_2)) > 15 then (some (([] : List (S67)), false)) else (if 0 ≤ x5_2 then (if x5_2 ≤ x7_3 then (if x7_3 ≤ (a0.size : Int) then ((strconv_ParseInt.f (a0.extract (x5_2 : Int).toNat (x7_3 : Int).toNat) 10 64).bind fun bt182 => (if x4_2.length < 5864062014805 then (impl_parts.l0 k3 a0 (x4_2 ++ [(⟨bt182.1, (⟨#[]⟩ : ByteArray)⟩ : S67)]) x7_3) else (none))) else (none)) else (none)) else (none)))) = some (r1, r2) := H
                          have A17 := Aside0.mk A170
                          clear A170
                          by_cases c18 : t181 = true
                          · subst c18
                            have H1 : (impl_parts.l1 k3 a0 x4_2 x5_2 (wrap64 (x7_3 + 1))) = some (r1, r2) := by rw [if_pos rfl] at H; exact H
                            clear H
                            have H := H1
                            clear H1
                            have H' := Aside0.mk H
                            clear H
                            have p16 : 0 ≤ (x7_3 : Int) := of_decide_eq_true (by first | (with_reducible assumption) | assumption)
                            have q16 : x7_3 < (a0.size : Int) := of_decide_eq_true (by first | (with_reducible assumption) | assumption)
                            have hx16 := bt_at a0 x7_3
                            replace p16 := eq_true p16
                            replace q16 := eq_true q16
                            go_wp2_with (first | (go_at_call 55; (with_reducible refine (impl_digit.calls (bt a0 x7_3) true _ A17.out).mono ?_); rintro e w' ⟨rfl, ⟨nd, rfl⟩⟩))
                            go_roundg k3
                            case measure => have := HJ1.out; have := HK2.out; have := HK3.out; omega
                            case rel => exact ⟨(wrap64 (x7_3 + 1)), (by first | rfl | (simp; done) | (simp [*]; done)), H', ⟨by have := HJ1.out; have := HK2.out; have := HK3.out; omega⟩, ⟨by (with_reducible repeat (first | apply Kd.R_alloc | apply Kd.R_drewN | apply Kd.R_drew)); exact HO_4.out⟩, ⟨by repeat (first | (with_reducible first | exact HB.out | apply below_alloc | apply pw_below_drewN | apply below_drew1) | exact HB.out)⟩⟩
                          · replace c18 := Bool.eq_false_iff.mpr c18
                            subst c18
                            have H1 : (if (wrap64 (x7_3 - x5_2)) > 15 then (some (([] : List (S67)), false)) else (if 0 ≤ x5_2 then (if x5_2 ≤ x7_3 then (if x7_3 ≤ (a0.size : Int) then ((strconv_ParseInt.f (a0.extract (x5_2 : Int).toNat (x7_3 : Int).toNat) 10 64).bind fun bt182 => (if x4_2.length < 5864062014805 then (impl_parts.l0 k3 a0 (x4_2 ++ [(⟨bt182.1, (⟨#[]⟩ : ByteArray)⟩ : S67)]) x7_3) else (none))) else (none)) else (none)) else (none))) = some (r1, r2) := by rw [if_neg (show ¬ (false = true) by decide)] at H; exact H
                            clear H
                            have H := H1
                            clear H1
                            by_cases c19 : (wrap64 (x7_3 - x5_2)) > 15
                            · rw [if_pos c19] at H
                              have c19b0 : decide (15 < (wrap64 (x7_3 - x5_2))) = true := decide_eq_true c19
                              clear c19
                              simp only [Option.some.injEq, Prod.mk.injEq] at H
                              obtain ⟨rfl, rfl⟩ := H
                              have p16 : 0 ≤ (x7_3 : Int) := of_decide_eq_true (by first | (with_reducible assumption) | assumption)
                              have q16 : x7_3 < (a0.size : Int) := of_decide_eq_true (by first | (with_reducible assumption) | assumption)
                              have hx16 := bt_at a0 x7_3
                              replace p16 := eq_true p16
                              replace q16 := eq_true q16
                              go_wp2_with (first | (go_at_call 55; (with_reducible refine (impl_digit.calls (bt a0 x7_3) false _ A17.out).mono ?_); rintro e w' ⟨rfl, ⟨nd, rfl⟩⟩))
                              go_ret2
                              exact ⟨_, by first | rfl | (simp [errW_none, errW_some] <;> rfl) | (simp [*, errW_none, errW_some] <;> rfl), by first | exact Kd.R_nil _ _ _ _ _ | exact Kd.N_nil _ _ _ _ _ | exact Kd.V_nil _ _ _ _ _ | exact Kd.Q_nil _ _ _ _ _ | exact Kd.S_nil _ _ _ _ _, by repeat (first | (with_reducible first | exact HB.out | apply below_alloc | apply pw_below_drewN | apply below_drew1) | exact HB.out)⟩
                            · rw [if_neg c19] at H
                              have c19b0 : decide (15 < (wrap64 (x7_3 - x5_2))) = false := decide_eq_false c19
                              clear c19
                              by_cases c20 : 0 ≤ x5_2
                              · rw [if_pos c20] at H
                                have c20b0 := eq_true c20
                                have c20b1 : decide (0 ≤ x5_2) = true := decide_eq_true c20
                                clear c20
                                by_cases c21 : x5_2 ≤ x7_3
                                · rw [if_pos c21] at H
                                  have c21b0 := eq_true c21
                                  have c21b1 : decide (x5_2 ≤ x7_3) = true := decide_eq_true c21
                                  clear c21
                                  by_cases c22 : x7_3 ≤ (a0.size : Int)
                                  · rw [if_pos c22] at H
                                    have c22b0 := eq_true c22
                                    have c22b1 : decide (x7_3 ≤ (a0.size : Int)) = true := decide_eq_true c22
                                    clear c22
                                    replace H := Option.bind_eq_some_iff.mp H
                                    obtain ⟨⟨t182, t183⟩, A230, H⟩ := H
                                    replace H : (if x4_2.length < 5864062014805 then (impl_parts.l0 k3 a0 (x4_2 ++ [(⟨t182, (⟨#[]⟩ : ByteArray)⟩ : S67)]) x7_3) else (none)) = some (r1, r2) := H
                                    have A23 := Aside0.mk A230
                                    clear A230
                                    by_cases c24 : x4_2.length < 5864062014805
                                    · rw [if_pos c24] at H
                                      have LMc24 := Aside0.mk c24
                                      clear c24
                                      obtain ⟨y184, hy184⟩ : ∃ y_ : List (S67), y_ = (x4_2 ++ [(⟨t182, (⟨#[]⟩ : ByteArray)⟩ : S67)]) := ⟨_, rfl⟩
                                      replace H : (impl_parts.l0 k3 a0 y184 x7_3) = some (r1, r2) := by first | (rw [hy184]; with_reducible exact H) | (have H2_ := (Option.bind_some _ _).symm.trans H; rw [hy184]; with_reducible exact H2_) | (have H2_ := (Option.bind_some _ _).symm.trans H; with_reducible exact H2_) | with_reducible exact H | (rw [hy184]; exact H) | exact H
                                      have Ny184 := Aside0.mk hy184
                                      clear hy184
                                      have H' := Aside0.mk H
                                      clear H
                                      have p16 : 0 ≤ (x7_3 : Int) := of_decide_eq_true (by first | (with_reducible assumption) | assumption)
                                      have q16 : x7_3 < (a0.size : Int) := of_decide_eq_true (by first | (with_reducible assumption) | assumption)
                                      have hx16 := bt_at a0 x7_3
                                      replace p16 := eq_true p16
                                      replace q16 := eq_true q16
                                      go_wp2_with (first | (go_at_call 55; (with_reducible refine (impl_digit.calls (bt a0 x7_3) false _ A17.out).mono ?_); rintro e w' ⟨rfl, ⟨nd, rfl⟩⟩) | ((with_reducible refine gate_callee (f := 56) rfl ?_); refine goesL_ (some 56) rfl rfl Tryd.func56 (by kernel_rfl) rfl #[.string (a0.extract (x5_2 : Int).toNat (x7_3 : Int).toNat), .int .i64 10, .int .i64 64] rfl (by (try simp only [List.map_toArray, List.map_cons, List.map_nil]); first | done | rfl | (simp only [List.length_drop, List.length_take]; rfl)) ?_; (with_reducible refine (strconv_ParseInt.calls (a0.extract (x5_2 : Int).toNat (x7_3 : Int).toNat) 10 64 t182 t183 _ A23.out).mono ?_); rintro e w25 ⟨rfl, hb⟩; refine ⟨_, rfl, ?_⟩; have n0_ := Aside0.mk (Kd.R_below (by (with_reducible repeat (first | apply Kd.R_alloc | apply Kd.R_drewN | apply Kd.R_drew)); exact HO_4.out) hb); have n1_ := Aside0.mk (below_step (by repeat (first | (with_reducible first | exact HB.out | apply below_alloc | apply pw_below_drewN | apply below_drew1) | exact HB.out)) hb); clear HO_4; clear HB; have HO_4 := n0_; have HB := n1_; clear n0_ n1_; (try clear hb); (try clear hb2); (try clear hk); (try clear hi); (try simp only [errW_none, errW_some])) | ((with_reducible refine gate_builtin (b := .append) (xs := #[.tmp 59, .tmp 62]) rfl ?_); (try (refine gate_guard (by rfl) ?_; dsimp only)); at_builtin; refine Kd.R_append k67 (w0 := w) w.heap.size rfl (.tmp 59) (.tmp 62) 54 67 (.agg #[(.int .i64 0), (.string ⟨#[]⟩)]) 24 rfl Tryd.underlying54 info67 rfl (by decide) (by omega) u4 x4_2 (⟨t182, (⟨#[]⟩ : ByteArray)⟩ : S67) [.int .i64 t182, .string (⟨#[]⟩ : ByteArray)] (fun _ => True) (fun _ => False) rfl rfl ?aP (fun _ hk => hk.elim) ?aF ?aO ?aB ?aS ?aL ?_; (case aP => exact k67_mkM _ _ _ (⟨t182, (⟨#[]⟩ : ByteArray)⟩ : S67)); (case aB => exact (by repeat (first | (with_reducible first | exact HB.out | apply below_alloc | apply pw_below_drewN | apply below_drew1) | exact HB.out))); (case aF => exact (fun _ _ => trivial)); (case aO => exact (by (with_reducible repeat (first | apply Kd.R_alloc | apply Kd.R_drewN | apply Kd.R_drew)); exact HO_4.out)); (case aS => exact (below_size (by repeat (first | (with_reducible first | exact HB.out | apply below_alloc | apply pw_below_drewN | apply below_drew1) | exact HB.out)))); (case aL => have := LMc24.out; omega); intro v185 w26 ho hb hg hat; rw [← Ny184.out] at ho; have n0_ := Aside0.mk (hb); have n1_ := Aside0.mk (ho); clear HB; clear HO_4; have HB := n0_; have HO186 := n1_; clear n0_ n1_; clear ho hb hg hat))
                                      go_roundg k3
                                      case measure => have := HJ1.out; have := HK2.out; have := HK3.out; omega
                                      case rel => exact ⟨(y184), (x7_3), (by first | rfl | (simp; done) | (simp [*]; done)), H', ⟨by have := HJ1.out; have := HK2.out; have := HK3.out; omega⟩, ⟨by (with_reducible repeat (first | apply Kd.R_alloc | apply Kd.R_drewN | apply Kd.R_drew)); exact HO186.out⟩, ⟨by repeat (first | (with_reducible first | exact HB.out | apply below_alloc | apply pw_below_drewN | apply below_drew1) | exact HB.out)⟩⟩
                                    · rw [if_neg c24] at H
                                      exact absurd H (by simp)
                                  · rw [if_neg c22] at H
                                    exact absurd H (by simp)
                                · rw [if_neg c21] at H
                                  exact absurd H (by simp)
                              · rw [if_neg c20] at H
                                exact absurd H (by simp)
                        · rw [if_neg c15] at H
                          exact absurd H (by simp)
                      · rw [if_neg c14] at H
                        have c14b0 : decide (x7_3 < (a0.size : Int)) = false := decide_eq_false c14
                        clear c14
                        by_cases c27 : (wrap64 (x7_3 - x5_2)) > 15
                        · rw [if_pos c27] at H
                          have c27b0 : decide (15 < (wrap64 (x7_3 - x5_2))) = true := decide_eq_true c27
                          clear c27
                          simp only [Option.some.injEq, Prod.mk.injEq] at H
                          obtain ⟨rfl, rfl⟩ := H
                          go_wp2
                          go_ret2
                          exact ⟨_, by first | rfl | (simp [errW_none, errW_some] <;> rfl) | (simp [*, errW_none, errW_some] <;> rfl), by first | exact Kd.R_nil _ _ _ _ _ | exact Kd.N_nil _ _ _ _ _ | exact Kd.V_nil _ _ _ _ _ | exact Kd.Q_nil _ _ _ _ _ | exact Kd.S_nil _ _ _ _ _, by repeat (first | (with_reducible first | exact HB.out | apply below_alloc | apply pw_below_drewN | apply below_drew1) | exact HB.out)⟩
                        · rw [if_neg c27] at H
                          have c27b0 : decide (15 < (wrap64 (x7_3 - x5_2))) = false := decide_eq_false c27
                          clear c27
                          by_cases c28 : 0 ≤ x5_2
                          · rw [if_pos c28] at H
                            have c28b0 := eq_true c28
                            have c28b1 : decide (0 ≤ x5_2) = true := decide_eq_true c28
                            clear c28
                            by_cases c29 : x5_2 ≤ x7_3
                            · rw [if_pos c29] at H
                              have c29b0 := eq_true c29
                              have c29b1 : decide (x5_2 ≤ x7_3) = true := decide_eq_true c29
                              clear c29
                              by_cases c30 : x7_3 ≤ (a0.size : Int)
                              · rw [if_pos c30] at H
                                have c30b0 := eq_true c30
                                have c30b1 : decide (x7_3 ≤ (a0.size : Int)) = true := decide_eq_true c30
                                clear c30
                                replace H := Option.bind_eq_some_iff.mp H
                                obtain ⟨⟨t187, t188⟩, A310, H⟩ := H
                                replace H : (if x4_2.length < 5864062014805 then (impl_parts.l0 k3 a0 (x4_2 ++ [(⟨t187, (⟨#[]⟩ : ByteArray)⟩ : S67)]) x7_3) else (none)) = some (r1, r2) := H
                                have A31 := Aside0.mk A310
                                clear A310
                                by_cases c32 : x4_2.length < 5864062014805
                                · rw [if_pos c32] at H
                                  have LMc32 := Aside0.mk c32
                                  clear c32
                                  obtain ⟨y189, hy189⟩ : ∃ y_ : List (S67), y_ = (x4_2 ++ [(⟨t187, (⟨#[]⟩ : ByteArray)⟩ : S67)]) := ⟨_, rfl⟩
                                  replace H : (impl_parts.l0 k3 a0 y189 x7_3) = some (r1, r2) := by first | (rw [hy189]; with_reducible exact H) | (have H2_ := (Option.bind_some _ _).symm.trans H; rw [hy189]; with_reducible exact H2_) | (have H2_ := (Option.bind_some _ _).symm.trans H; with_reducible exact H2_) | with_reducible exact H | (rw [hy189]; exact H) | exact H
                                  have Ny189 := Aside0.mk hy189
                                  clear hy189
                                  have H' := Aside0.mk H
                                  clear H
                                  go_wp2_with (first | ((with_reducible refine gate_callee (f := 56) rfl ?_); refine goesL_ (some 56) rfl rfl Tryd.func56 (by kernel_rfl) rfl #[.string (a0.extract (x5_2 : Int).toNat (x7_3 : Int).toNat), .int .i64 10, .int .i64 64] rfl (by (try simp only [List.map_toArray, List.map_cons, List.map_nil]); first | done | rfl | (simp only [List.length_drop, List.length_take]; rfl)) ?_; (with_reducible refine (strconv_ParseInt.calls (a0.extract (x5_2 : Int).toNat (x7_3 : Int).toNat) 10 64 t187 t188 _ A31.out).mono ?_); rintro e w33 ⟨rfl, hb⟩; refine ⟨_, rfl, ?_⟩; have n0_ := Aside0.mk (Kd.R_below (by (with_reducible repeat (first | apply Kd.R_alloc | apply Kd.R_drewN | apply Kd.R_drew)); exact HO_4.out) hb); have n1_ := Aside0.mk (below_step (by repeat (first | (with_reducible first | exact HB.out | apply below_alloc | apply pw_below_drewN | apply below_drew1) | exact HB.out)) hb); clear HO_4; clear HB; have HO_4 := n0_; have HB := n1_; clear n0_ n1_; (try clear hb); (try clear hb2); (try clear hk); (try clear hi); (try simp only [errW_none, errW_some])) | ((with_reducible refine gate_builtin (b := .append) (xs := #[.tmp 59, .tmp 62]) rfl ?_); (try (refine gate_guard (by rfl) ?_; dsimp only)); at_builtin; refine Kd.R_append k67 (w0 := w) w.heap.size rfl (.tmp 59) (.tmp 62) 54 67 (.agg #[(.int .i64 0), (.string ⟨#[]⟩)]) 24 rfl Tryd.underlying54 info67 rfl (by decide) (by omega) u4 x4_2 (⟨t187, (⟨#[]⟩ : ByteArray)⟩ : S67) [.int .i64 t187, .string (⟨#[]⟩ : ByteArray)] (fun _ => True) (fun _ => False) rfl rfl ?aP (fun _ hk => hk.elim) ?aF ?aO ?aB ?aS ?aL ?_; (case aP => exact k67_mkM _ _ _ (⟨t187, (⟨#[]⟩ : ByteArray)⟩ : S67)); (case aB => exact (by repeat (first | (with_reducible first | exact HB.out | apply below_alloc | apply pw_below_drewN | apply below_drew1) | exact HB.out))); (case aF => exact (fun _ _ => trivial)); (case aO => exact (by (with_reducible repeat (first | apply Kd.R_alloc | apply Kd.R_drewN | apply Kd.R_drew)); exact HO_4.out)); (case aS => exact (below_size (by repeat (first | (with_reducible first | exact HB.out | apply below_alloc | apply pw_below_drewN | apply below_drew1) | exact HB.out)))); (case aL => have := LMc32.out; omega); intro v190 w34 ho hb hg hat; rw [← Ny189.out] at ho; have n0_ := Aside0.mk (hb); have n1_ := Aside0.mk (ho); clear HB; clear HO_4; have HB := n0_; have HO191 := n1_; clear n0_ n1_; clear ho hb hg hat))
                                  go_roundg k3
                                  case measure => have := HJ1.out; have := HK2.out; have := HK3.out; omega
                                  case rel => exact ⟨(y189), (x7_3), (by first | rfl | (simp; done) | (simp [*]; done)), H', ⟨by have := HJ1.out; have := HK2.out; have := HK3.out; omega⟩, ⟨by (with_reducible repeat (first | apply Kd.R_alloc | apply Kd.R_drewN | apply Kd.R_drew)); exact HO191.out⟩, ⟨by repeat (first | (with_reducible first | exact HB.out | apply below_alloc | apply pw_below_drewN | apply below_drew1) | exact HB.out)⟩⟩
                                · rw [if_neg c32] at H
                                  exact absurd H (by simp)
                              · rw [if_neg c30] at H
                                exact absurd H (by simp)
                            · rw [if_neg c29] at H
                              exact absurd H (by simp)
                          · rw [if_neg c28] at H
                            exact absurd H (by simp)
                · replace c13 := Bool.eq_false_iff.mpr c13
                  subst c13
                  have H1 : ((impl_letter.f (bt a0 x5_2)).bind fun t192 => (if t192 = true then (impl_parts.l2 k2 a0 x4_2 x5_2 x5_2) else (if (bt a0 x5_2) = 46 then (impl_parts.l0 k2 a0 x4_2 (wrap64 (x5_2 + 1))) else (if (bt a0 x5_2) = 45 then (impl_parts.l0 k2 a0 x4_2 (wrap64 (x5_2 + 1))) else (some (([] : List (S67)), false)))))) = some (r1, r2) := by rw [if_neg (show ¬ (false = true) by decide)] at H; exact H
                  clear H
                  have H := H1
                  clear H1
                  replace H := Option.bind_eq_some_iff.mp H
                  obtain ⟨t192, A350, H⟩ := H
                  replace H : (if t192 = true then (impl_parts.l2 k2 a0 x4_2 x5_2 x5_2) else (if (bt a0 x5_2) = 46 then (impl_parts.l0 k2 a0 x4_2 (wrap64 (x5_2 + 1))) else (if (bt a0 x5_2) = 45 then (impl_parts.l0 k2 a0 x4_2 (wrap64 (x5_2 + 1))) else (some (([] : List (S67)), false))))) = some (r1, r2) := H
                  have A35 := Aside0.mk A350
                  clear A350
                  by_cases c36 : t192 = true
                  · subst c36
                    have H1 : (impl_parts.l2 k2 a0 x4_2 x5_2 x5_2) = some (r1, r2) := by rw [if_pos rfl] at H; exact H
                    clear H
                    have H := H1
                    clear H1
                    have H' := Aside0.mk H
                    clear H
                    have p11 : 0 ≤ (x5_2 : Int) := of_decide_eq_true (by first | (with_reducible assumption) | assumption)
                    have q11 : x5_2 < (a0.size : Int) := of_decide_eq_true (by first | (with_reducible assumption) | assumption)
                    have hx11 := bt_at a0 x5_2
                    replace p11 := eq_true p11
                    replace q11 := eq_true q11
                    go_wp2_with (first | ((with_reducible refine gate_callee (f := 55) rfl ?_); refine goesL_ (some 34) rfl rfl Tryd.func55 (by kernel_rfl) rfl #[.int .u8 (bt a0 x5_2)] rfl (by (try simp only [List.map_toArray, List.map_cons, List.map_nil]); first | done | rfl | (simp only [List.length_drop, List.length_take]; rfl)) ?_; (with_reducible refine (impl_digit.calls (bt a0 x5_2) false _ A12.out).mono ?_); rintro e w' ⟨rfl, ⟨nd, rfl⟩⟩; refine ⟨_, rfl, ?_⟩) | ((with_reducible refine gate_callee (f := 57) rfl ?_); refine goesL_ (some 66) rfl rfl Tryd.func57 (by kernel_rfl) rfl #[.int .u8 (bt a0 x5_2)] rfl (by (try simp only [List.map_toArray, List.map_cons, List.map_nil]); first | done | rfl | (simp only [List.length_drop, List.length_take]; rfl)) ?_; (with_reducible refine (impl_letter.calls (bt a0 x5_2) true _ A35.out).mono ?_); rintro e w' ⟨rfl, ⟨nd, rfl⟩⟩; refine ⟨_, rfl, ?_⟩))
                    go_loopg [7] k2 (fun kq v7 w' => ∃ (x7_3 : Int), v7 = .int .i64 x7_3 ∧ Aside0 (impl_parts.l2 kq a0 x4_2 x5_2 x7_3 = some (r1, r2)) ∧ Aside0 (kq ≤ k2) ∧ Aside0 (Kd.R k67 67 w' w.heap.size (fun _ => True) u4 x4_2) ∧ Aside0 (Below w.heap.size w w'))
                    case atStart => exact ⟨(x5_2), (by first | rfl | (simp; done) | (simp [*]; done)), H', ⟨Nat.le_refl _⟩, ⟨by (with_reducible repeat (first | apply Kd.R_alloc | apply Kd.R_drewN | apply Kd.R_drew)); exact HO_4.out⟩, ⟨by repeat (first | (with_reducible first | exact HB.out | apply below_alloc | apply pw_below_drewN | apply below_drew1) | exact HB.out)⟩⟩
                    case round =>
                      clear H'
                      try clear c1
                      try clear p1
                      try clear q1
                      try clear hx1
                      try clear c2
                      try clear p2
                      try clear c3
                      try clear c3b0
                      try clear c3b1
                      try clear c4
                      try clear c4b0
                      try clear c4b1
                      try clear c5
                      try clear c5b0
                      try clear c5b1
                      try clear p6
                      try clear q6
                      try clear hx6
                      try clear qi6
                      try clear c8
                      try clear c9
                      try clear c9b0
                      try clear c10
                      try clear c10b0
                      try clear p11
                      try clear q11
                      try clear hx11
                      try clear c13
                      try clear c14
                      try clear c14b0
                      try clear c15
                      try clear c15b0
                      try clear p16
                      try clear q16
                      try clear hx16
                      try clear c18
                      try clear c19
                      try clear c19b0
                      try clear c20
                      try clear c20b0
                      try clear c20b1
                      try clear c21
                      try clear c21b0
                      try clear c21b1
                      try clear c22
                      try clear c22b0
                      try clear c22b1
                      try clear c24
                      try clear c27
                      try clear c27b0
                      try clear c28
                      try clear c28b0
                      try clear c28b1
                      try clear c29
                      try clear c29b0
                      try clear c29b1
                      try clear c30
                      try clear c30b0
                      try clear c30b1
                      try clear c32
                      try clear c36
                      try clear p1
                      try clear p11
                      try clear p16
                      try clear p2
                      try clear p6
                      try clear q1
                      try clear q11
                      try clear q16
                      try clear q6
                      obtain ⟨x7_3, rfl, HA, HK3, HO_4, HB⟩ := hrel
                      cases gk with
                      | zero => exact absurd HA.out (by simp [impl_parts.l2])
                      | succ k3 =>
                        have H := HA.out
                        clear HA
                        simp only [impl_parts.l2] at H
                        by_cases c37 : x7_3 < (a0.size : Int)
                        · rw [if_pos c37] at H
                          have c37b0 : decide (x7_3 < (a0.size : Int)) = true := decide_eq_true c37
                          clear c37
                          by_cases c38 : 0 ≤ x7_3
                          · rw [if_pos c38] at H
                            have c38b0 : decide (0 ≤ x7_3) = true := decide_eq_true c38
                            clear c38
                            replace H := Option.bind_eq_some_iff.mp H
                            obtain ⟨t193, A400, H⟩ := H
                            replace H : (if t193 = true then (impl_parts.l2 k3 a0 x4_2 x5_2 (wrap64 (x7_3 + 1))) else (if 0 ≤ x5_2 then (if x5_2 ≤ x7_3 then (if x7_3 ≤ (a0.size : Int) then (if x4_2.length < 5864062014805 then (impl_parts.l0 k3 a0 (x4_2 ++ [(⟨0, a0.extract (x5_2 : Int).toNat (x7_3 : Int).toNat⟩ : S67)]) x7_3) else (none)) else (none)) else (none)) else (none))) = some (r1, r2) := H
                            have A40 := Aside0.mk A400
                            clear A400
                            by_cases c41 : t193 = true
                            · subst c41
                              have H1 : (impl_parts.l2 k3 a0 x4_2 x5_2 (wrap64 (x7_3 + 1))) = some (r1, r2) := by rw [if_pos rfl] at H; exact H
                              clear H
                              have H := H1
                              clear H1
                              have H' := Aside0.mk H
                              clear H
                              have p39 : 0 ≤ (x7_3 : Int) := of_decide_eq_true (by first | (with_reducible assumption) | assumption)
                              have q39 : x7_3 < (a0.size : Int) := of_decide_eq_true (by first | (with_reducible assumption) | assumption)
                              have hx39 := bt_at a0 x7_3
                              replace p39 := eq_true p39
                              replace q39 := eq_true q39
                              go_wp2_with (first | (go_at_call 57; (with_reducible refine (impl_letter.calls (bt a0 x7_3) true _ A40.out).mono ?_); rintro e w' ⟨rfl, ⟨nd, rfl⟩⟩))
                              go_roundg k3
                              case measure => have := HJ1.out; have := HK2.out; have := HK3.out; omega
                              case rel => exact ⟨(wrap64 (x7_3 + 1)), (by first | rfl | (simp; done) | (simp [*]; done)), H', ⟨by have := HJ1.out; have := HK2.out; have := HK3.out; omega⟩, ⟨by (with_reducible repeat (first | apply Kd.R_alloc | apply Kd.R_drewN | apply Kd.R_drew)); exact HO_4.out⟩, ⟨by repeat (first | (with_reducible first | exact HB.out | apply below_alloc | apply pw_below_drewN | apply below_drew1) | exact HB.out)⟩⟩
                            · replace c41 := Bool.eq_false_iff.mpr c41
                              subst c41
                              have H1 : (if 0 ≤ x5_2 then (if x5_2 ≤ x7_3 then (if x7_3 ≤ (a0.size : Int) then (if x4_2.length < 5864062014805 then (impl_parts.l0 k3 a0 (x4_2 ++ [(⟨0, a0.extract (x5_2 : Int).toNat (x7_3 : Int).toNat⟩ : S67)]) x7_3) else (none)) else (none)) else (none)) else (none)) = some (r1, r2) := by rw [if_neg (show ¬ (false = true) by decide)] at H; exact H
                              clear H
                              have H := H1
                              clear H1
                              by_cases c42 : 0 ≤ x5_2
                              · rw [if_pos c42] at H
                                have c42b0 := eq_true c42
                                have c42b1 : decide (0 ≤ x5_2) = true := decide_eq_true c42
                                clear c42
                                by_cases c43 : x5_2 ≤ x7_3
                                · rw [if_pos c43] at H
                                  have c43b0 := eq_true c43
                                  have c43b1 : decide (x5_2 ≤ x7_3) = true := decide_eq_true c43
                                  clear c43
                                  by_cases c44 : x7_3 ≤ (a0.size : Int)
                                  · rw [if_pos c44] at H
                                    have c44b0 := eq_true c44
                                    have c44b1 : decide (x7_3 ≤ (a0.size : Int)) = true := decide_eq_true c44
                                    clear c44
                                    by_cases c45 : x4_2.length < 5864062014805
                                    · rw [if_pos c45] at H
                                      have LMc45 := Aside0.mk c45
                                      clear c45
                                      obtain ⟨y194, hy194⟩ : ∃ y_ : List (S67), y_ = (x4_2 ++ [(⟨0, a0.extract (x5_2 : Int).toNat (x7_3 : Int).toNat⟩ : S67)]) := ⟨_, rfl⟩
                                      replace H : (impl_parts.l0 k3 a0 y194 x7_3) = some (r1, r2) := by first | (rw [hy194]; with_reducible exact H) | (have H2_ := (Option.bind_some _ _).symm.trans H; rw [hy194]; with_reducible exact H2_) | (have H2_ := (Option.bind_some _ _).symm.trans H; with_reducible exact H2_) | with_reducible exact H | (rw [hy194]; exact H) | exact H
                                      have Ny194 := Aside0.mk hy194
                                      clear hy194
                                      have H' := Aside0.mk H
                                      clear H
                                      have p39 : 0 ≤ (x7_3 : Int) := of_decide_eq_true (by first | (with_reducible assumption) | assumption)
                                      have q39 : x7_3 < (a0.size : Int) := of_decide_eq_true (by first | (with_reducible assumption) | assumption)
                                      have hx39 := bt_at a0 x7_3
                                      replace p39 := eq_true p39
                                      replace q39 := eq_true q39
                                      go_wp2_with (first | (go_at_call 57; (with_reducible refine (impl_letter.calls (bt a0 x7_3) false _ A40.out).mono ?_); rintro e w' ⟨rfl, ⟨nd, rfl⟩⟩) | ((with_reducible refine gate_builtin (b := .append) (xs := #[.tmp 79, .tmp 85]) rfl ?_); (try (refine gate_guard (by rfl) ?_; dsimp only)); at_builtin; refine Kd.R_append k67 (w0 := w) w.heap.size rfl (.tmp 79) (.tmp 85) 54 67 (.agg #[(.int .i64 0), (.string ⟨#[]⟩)]) 24 rfl Tryd.underlying54 info67 rfl (by decide) (by omega) u4 x4_2 (⟨0, a0.extract (x5_2 : Int).toNat (x7_3 : Int).toNat⟩ : S67) [.int .i64 0, .string (a0.extract (x5_2 : Int).toNat (x7_3 : Int).toNat)] (fun _ => True) (fun _ => False) rfl rfl ?aP (fun _ hk => hk.elim) ?aF ?aO ?aB ?aS ?aL ?_; (case aP => exact k67_mkM _ _ _ (⟨0, a0.extract (x5_2 : Int).toNat (x7_3 : Int).toNat⟩ : S67)); (case aB => exact (by repeat (first | (with_reducible first | exact HB.out | apply below_alloc | apply pw_below_drewN | apply below_drew1) | exact HB.out))); (case aF => exact (fun _ _ => trivial)); (case aO => exact (by (with_reducible repeat (first | apply Kd.R_alloc | apply Kd.R_drewN | apply Kd.R_drew)); exact HO_4.out)); (case aS => exact (below_size (by repeat (first | (with_reducible first | exact HB.out | apply below_alloc | apply pw_below_drewN | apply below_drew1) | exact HB.out)))); (case aL => have := LMc45.out; omega); intro v195 w46 ho hb hg hat; rw [← Ny194.out] at ho; have n0_ := Aside0.mk (hb); have n1_ := Aside0.mk (ho); clear HB; clear HO_4; have HB := n0_; have HO196 := n1_; clear n0_ n1_; clear ho hb hg hat))
                                      go_roundg k3
                                      case measure => have := HJ1.out; have := HK2.out; have := HK3.out; omega
                                      case rel => exact ⟨(y194), (x7_3), (by first | rfl | (simp; done) | (simp [*]; done)), H', ⟨by have := HJ1.out; have := HK2.out; have := HK3.out; omega⟩, ⟨by (with_reducible repeat (first | apply Kd.R_alloc | apply Kd.R_drewN | apply Kd.R_drew)); exact HO196.out⟩, ⟨by repeat (first | (with_reducible first | exact HB.out | apply below_alloc | apply pw_below_drewN | apply below_drew1) | exact HB.out)⟩⟩
                                    · rw [if_neg c45] at H
                                      exact absurd H (by simp)
                                  · rw [if_neg c44] at H
                                    exact absurd H (by simp)
                                · rw [if_neg c43] at H
                                  exact absurd H (by simp)
                              · rw [if_neg c42] at H
                                exact absurd H (by simp)
                          · rw [if_neg c38] at H
                            exact absurd H (by simp)
                        · rw [if_neg c37] at H
                          have c37b0 : decide (x7_3 < (a0.size : Int)) = false := decide_eq_false c37
                          clear c37
                          by_cases c47 : 0 ≤ x5_2
                          · rw [if_pos c47] at H
                            have c47b0 := eq_true c47
                            have c47b1 : decide (0 ≤ x5_2) = true := decide_eq_true c47
                            clear c47
                            by_cases c48 : x5_2 ≤ x7_3
                            · rw [if_pos c48] at H
                              have c48b0 := eq_true c48
                              have c48b1 : decide (x5_2 ≤ x7_3) = true := decide_eq_true c48
                              clear c48
                              by_cases c49 : x7_3 ≤ (a0.size : Int)
                              · rw [if_pos c49] at H
                                have c49b0 := eq_true c49
                                have c49b1 : decide (x7_3 ≤ (a0.size : Int)) = true := decide_eq_true c49
                                clear c49
                                by_cases c50 : x4_2.length < 5864062014805
                                · rw [if_pos c50] at H
                                  have LMc50 := Aside0.mk c50
                                  clear c50
                                  obtain ⟨y197, hy197⟩ : ∃ y_ : List (S67), y_ = (x4_2 ++ [(⟨0, a0.extract (x5_2 : Int).toNat (x7_3 : Int).toNat⟩ : S67)]) := ⟨_, rfl⟩
                                  replace H : (impl_parts.l0 k3 a0 y197 x7_3) = some (r1, r2) := by first | (rw [hy197]; with_reducible exact H) | (have H2_ := (Option.bind_some _ _).symm.trans H; rw [hy197]; with_reducible exact H2_) | (have H2_ := (Option.bind_some _ _).symm.trans H; with_reducible exact H2_) | with_reducible exact H | (rw [hy197]; exact H) | exact H
                                  have Ny197 := Aside0.mk hy197
                                  clear hy197
                                  have H' := Aside0.mk H
                                  clear H
                                  go_wp2_with (first | ((with_reducible refine gate_builtin (b := .append) (xs := #[.tmp 79, .tmp 85]) rfl ?_); (try (refine gate_guard (by rfl) ?_; dsimp only)); at_builtin; refine Kd.R_append k67 (w0 := w) w.heap.size rfl (.tmp 79) (.tmp 85) 54 67 (.agg #[(.int .i64 0), (.string ⟨#[]⟩)]) 24 rfl Tryd.underlying54 info67 rfl (by decide) (by omega) u4 x4_2 (⟨0, a0.extract (x5_2 : Int).toNat (x7_3 : Int).toNat⟩ : S67) [.int .i64 0, .string (a0.extract (x5_2 : Int).toNat (x7_3 : Int).toNat)] (fun _ => True) (fun _ => False) rfl rfl ?aP (fun _ hk => hk.elim) ?aF ?aO ?aB ?aS ?aL ?_; (case aP => exact k67_mkM _ _ _ (⟨0, a0.extract (x5_2 : Int).toNat (x7_3 : Int).toNat⟩ : S67)); (case aB => exact (by repeat (first | (with_reducible first | exact HB.out | apply below_alloc | apply pw_below_drewN | apply below_drew1) | exact HB.out))); (case aF => exact (fun _ _ => trivial)); (case aO => exact (by (with_reducible repeat (first | apply Kd.R_alloc | apply Kd.R_drewN | apply Kd.R_drew)); exact HO_4.out)); (case aS => exact (below_size (by repeat (first | (with_reducible first | exact HB.out | apply below_alloc | apply pw_below_drewN | apply below_drew1) | exact HB.out)))); (case aL => have := LMc50.out; omega); intro v198 w51 ho hb hg hat; rw [← Ny197.out] at ho; have n0_ := Aside0.mk (hb); have n1_ := Aside0.mk (ho); clear HB; clear HO_4; have HB := n0_; have HO199 := n1_; clear n0_ n1_; clear ho hb hg hat))
                                  go_roundg k3
                                  case measure => have := HJ1.out; have := HK2.out; have := HK3.out; omega
                                  case rel => exact ⟨(y197), (x7_3), (by first | rfl | (simp; done) | (simp [*]; done)), H', ⟨by have := HJ1.out; have := HK2.out; have := HK3.out; omega⟩, ⟨by (with_reducible repeat (first | apply Kd.R_alloc | apply Kd.R_drewN | apply Kd.R_drew)); exact HO199.out⟩, ⟨by repeat (first | (with_reducible first | exact HB.out | apply below_alloc | apply pw_below_drewN | apply below_drew1) | exact HB.out)⟩⟩
                                · rw [if_neg c50] at H
                                  exact absurd H (by simp)
                              · rw [if_neg c49] at H
                                exact absurd H (by simp)
                            · rw [if_neg c48] at H
                              exact absurd H (by simp)
                          · rw [if_neg c47] at H
                            exact absurd H (by simp)
                  · replace c36 := Bool.eq_false_iff.mpr c36
                    subst c36
                    have H1 : (if (bt a0 x5_2) = 46 then (impl_parts.l0 k2 a0 x4_2 (wrap64 (x5_2 + 1))) else (if (bt a0 x5_2) = 45 then (impl_parts.l0 k2 a0 x4_2 (wrap64 (x5_2 + 1))) else (some (([] : List (S67)), false)))) = some (r1, r2) := by rw [if_neg (show ¬ (false = true) by decide)] at H; exact H
                    clear H
                    have H := H1
                    clear H1
                    by_cases c52 : (bt a0 x5_2) = 46
                    · rw [if_pos c52] at H
                      have c52b0 : ((bt a0 x5_2) == 46) = true := beq_iff_eq.mpr c52
                      have c52b1 : ((bt a0 x5_2) != 46) = false := bne_eq_false_iff_eq.mpr c52
                      clear c52
                      have H' := Aside0.mk H
                      clear H
                      have p11 : 0 ≤ (x5_2 : Int) := of_decide_eq_true (by first | (with_reducible assumption) | assumption)
                      have q11 : x5_2 < (a0.size : Int) := of_decide_eq_true (by first | (with_reducible assumption) | assumption)
                      have hx11 := bt_at a0 x5_2
                      replace p11 := eq_true p11
                      replace q11 := eq_true q11
                      go_wp2_with (first | ((with_reducible refine gate_callee (f := 55) rfl ?_); refine goesL_ (some 34) rfl rfl Tryd.func55 (by kernel_rfl) rfl #[.int .u8 (bt a0 x5_2)] rfl (by (try simp only [List.map_toArray, List.map_cons, List.map_nil]); first | done | rfl | (simp only [List.length_drop, List.length_take]; rfl)) ?_; (with_reducible refine (impl_digit.calls (bt a0 x5_2) false _ A12.out).mono ?_); rintro e w' ⟨rfl, ⟨nd, rfl⟩⟩; refine ⟨_, rfl, ?_⟩) | ((with_reducible refine gate_callee (f := 57) rfl ?_); refine goesL_ (some 66) rfl rfl Tryd.func57 (by kernel_rfl) rfl #[.int .u8 (bt a0 x5_2)] rfl (by (try simp only [List.map_toArray, List.map_cons, List.map_nil]); first | done | rfl | (simp only [List.length_drop, List.length_take]; rfl)) ?_; (with_reducible refine (impl_letter.calls (bt a0 x5_2) false _ A35.out).mono ?_); rintro e w' ⟨rfl, ⟨nd, rfl⟩⟩; refine ⟨_, rfl, ?_⟩))
                      go_roundg k2
                      case measure => have := HJ1.out; have := HK2.out; omega
                      case rel => exact ⟨(x4_2), (wrap64 (x5_2 + 1)), (by first | rfl | (simp; done) | (simp [*]; done)), H', ⟨by have := HJ1.out; have := HK2.out; omega⟩, ⟨by (with_reducible repeat (first | apply Kd.R_alloc | apply Kd.R_drewN | apply Kd.R_drew)); exact HO_4.out⟩, ⟨by repeat (first | (with_reducible first | exact HB.out | apply below_alloc | apply pw_below_drewN | apply below_drew1) | exact HB.out)⟩⟩
                    · rw [if_neg c52] at H
                      have c52b0 : ((bt a0 x5_2) == 46) = false := beq_eq_false_iff_ne.mpr c52
                      have c52b1 : ((bt a0 x5_2) != 46) = true := bne_iff_ne.mpr c52
                      by_cases c53 : (bt a0 x5_2) = 45
                      · rw [if_pos c53] at H
                        have c53b0 : ((bt a0 x5_2) == 45) = true := beq_iff_eq.mpr c53
                        have c53b1 : ((bt a0 x5_2) != 45) = false := bne_eq_false_iff_eq.mpr c53
                        clear c53
                        have H' := Aside0.mk H
                        clear H
                        have p11 : 0 ≤ (x5_2 : Int) := of_decide_eq_true (by first | (with_reducible assumption) | assumption)
                        have q11 : x5_2 < (a0.size : Int) := of_decide_eq_true (by first | (with_reducible assumption) | assumption)
                        have hx11 := bt_at a0 x5_2
                        replace p11 := eq_true p11
                        replace q11 := eq_true q11
                        go_wp2_with (first | ((with_reducible refine gate_callee (f := 55) rfl ?_); refine goesL_ (some 34) rfl rfl Tryd.func55 (by kernel_rfl) rfl #[.int .u8 (bt a0 x5_2)] rfl (by (try simp only [List.map_toArray, List.map_cons, List.map_nil]); first | done | rfl | (simp only [List.length_drop, List.length_take]; rfl)) ?_; (with_reducible refine (impl_digit.calls (bt a0 x5_2) false _ A12.out).mono ?_); rintro e w' ⟨rfl, ⟨nd, rfl⟩⟩; refine ⟨_, rfl, ?_⟩) | ((with_reducible refine gate_callee (f := 57) rfl ?_); refine goesL_ (some 66) rfl rfl Tryd.func57 (by kernel_rfl) rfl #[.int .u8 (bt a0 x5_2)] rfl (by (try simp only [List.map_toArray, List.map_cons, List.map_nil]); first | done | rfl | (simp only [List.length_drop, List.length_take]; rfl)) ?_; (with_reducible refine (impl_letter.calls (bt a0 x5_2) false _ A35.out).mono ?_); rintro e w' ⟨rfl, ⟨nd, rfl⟩⟩; refine ⟨_, rfl, ?_⟩))
                        go_roundg k2
                        case measure => have := HJ1.out; have := HK2.out; omega
                        case rel => exact ⟨(x4_2), (wrap64 (x5_2 + 1)), (by first | rfl | (simp; done) | (simp [*]; done)), H', ⟨by have := HJ1.out; have := HK2.out; omega⟩, ⟨by (with_reducible repeat (first | apply Kd.R_alloc | apply Kd.R_drewN | apply Kd.R_drew)); exact HO_4.out⟩, ⟨by repeat (first | (with_reducible first | exact HB.out | apply below_alloc | apply pw_below_drewN | apply below_drew1) | exact HB.out)⟩⟩
                      · rw [if_neg c53] at H
                        have c53b0 : ((bt a0 x5_2) == 45) = false := beq_eq_false_iff_ne.mpr c53
                        have c53b1 : ((bt a0 x5_2) != 45) = true := bne_iff_ne.mpr c53
                        simp only [Option.some.injEq, Prod.mk.injEq] at H
                        obtain ⟨rfl, rfl⟩ := H
                        have p11 : 0 ≤ (x5_2 : Int) := of_decide_eq_true (by first | (with_reducible assumption) | assumption)
                        have q11 : x5_2 < (a0.size : Int) := of_decide_eq_true (by first | (with_reducible assumption) | assumption)
                        have hx11 := bt_at a0 x5_2
                        replace p11 := eq_true p11
                        replace q11 := eq_true q11
                        go_wp2_with (first | ((with_reducible refine gate_callee (f := 55) rfl ?_); refine goesL_ (some 34) rfl rfl Tryd.func55 (by kernel_rfl) rfl #[.int .u8 (bt a0 x5_2)] rfl (by (try simp only [List.map_toArray, List.map_cons, List.map_nil]); first | done | rfl | (simp only [List.length_drop, List.length_take]; rfl)) ?_; (with_reducible refine (impl_digit.calls (bt a0 x5_2) false _ A12.out).mono ?_); rintro e w' ⟨rfl, ⟨nd, rfl⟩⟩; refine ⟨_, rfl, ?_⟩) | ((with_reducible refine gate_callee (f := 57) rfl ?_); refine goesL_ (some 66) rfl rfl Tryd.func57 (by kernel_rfl) rfl #[.int .u8 (bt a0 x5_2)] rfl (by (try simp only [List.map_toArray, List.map_cons, List.map_nil]); first | done | rfl | (simp only [List.length_drop, List.length_take]; rfl)) ?_; (with_reducible refine (impl_letter.calls (bt a0 x5_2) false _ A35.out).mono ?_); rintro e w' ⟨rfl, ⟨nd, rfl⟩⟩; refine ⟨_, rfl, ?_⟩))
                        go_ret2
                        exact ⟨_, by first | rfl | (simp [errW_none, errW_some] <;> rfl) | (simp [*, errW_none, errW_some] <;> rfl), by first | exact Kd.R_nil _ _ _ _ _ | exact Kd.N_nil _ _ _ _ _ | exact Kd.V_nil _ _ _ _ _ | exact Kd.Q_nil _ _ _ _ _ | exact Kd.S_nil _ _ _ _ _, by repeat (first | (with_reducible first | exact HB.out | apply below_alloc | apply pw_below_drewN | apply below_drew1) | exact HB.out)⟩
              · rw [if_neg c10] at H
                exact absurd H (by simp)
            · rw [if_neg c9] at H
              have c9b0 : decide (x5_2 < (a0.size : Int)) = false := decide_eq_false c9
              clear c9
              simp only [Option.some.injEq, Prod.mk.injEq] at H
              obtain ⟨rfl, rfl⟩ := H
              go_wp2
              go_ret2
              exact ⟨_, by first | rfl | (simp [errW_none, errW_some] <;> rfl) | (simp [*, errW_none, errW_some] <;> rfl), by (with_reducible repeat (first | apply Kd.R_alloc | apply Kd.R_drewN | apply Kd.R_drew)); exact HO_4.out, by repeat (first | (with_reducible first | exact HB.out | apply below_alloc | apply pw_below_drewN | apply below_drew1) | exact HB.out)⟩
end Go.Proofs.YthfohhpjanoimaaDoor.P
end

section
namespace Go.Proofs.YthfohhpjanoimaaDoor.P
open Go.RowKit Go.Proofs.YthfohhpjanoimaaDoorW.PrintWords Go.Proofs.YthfohhpjanoimaaDoorW.PrintLast Go.Proofs.YthfohhpjanoimaaDoorW.PrintMore Go.Proofs.YthfohhpjanoimaaDoorM
attribute [local go_sem] max2_int min2_int max_two min_two max_three min_three max_four min_four   -- for this text's walks alone
set_option linter.unusedVariables false
set_option linter.unusedSimpArgs false
theorem eqA88 (d : Nat) (w : World) (x0 y0 : ByteArray) (x1 y1 : Int) :
    (Op.equalIn (d + 2) 88 (.agg #[.string x0, .int .i64 x1]) (.agg #[.string y0, .int .i64 y1])).run Tryd.prog w = .ok (x0.toList == y0.toList && (x1 == y1)) w := by
  refine eqA_of Tryd.underlying88 (by kernel_rfl) ?_
  refine eqf_cons (by rfl) (by go_simp; rfl) (by go_simp; rfl) (by go_simp) ?_
  exact eqf_last (by rfl) (by go_simp; rfl) (by go_simp; rfl) (by go_simp)
end Go.Proofs.YthfohhpjanoimaaDoor.P
end

section
namespace Go.Proofs.YthfohhpjanoimaaDoor.P
open Go.RowKit Go.Proofs.YthfohhpjanoimaaDoorW.PrintWords Go.Proofs.YthfohhpjanoimaaDoorW.PrintLast Go.Proofs.YthfohhpjanoimaaDoorW.PrintMore Go.Proofs.YthfohhpjanoimaaDoorM
attribute [local go_sem] max2_int min2_int max_two min_two max_three min_three max_four min_four   -- for this text's walks alone
set_option linter.unusedVariables false
set_option linter.unusedSimpArgs false
end Go.Proofs.YthfohhpjanoimaaDoor.P
end

section
namespace Go.Proofs.YthfohhpjanoimaaDoor.P
open Go.RowKit Go.Proofs.YthfohhpjanoimaaDoorW.PrintWords Go.Proofs.YthfohhpjanoimaaDoorW.PrintLast Go.Proofs.YthfohhpjanoimaaDoorW.PrintMore Go.Proofs.YthfohhpjanoimaaDoorM
attribute [local go_sem] max2_int min2_int max_two min_two max_three min_three max_four min_four   -- for this text's walks alone
set_option linter.unusedVariables false
set_option linter.unusedSimpArgs false
end Go.Proofs.YthfohhpjanoimaaDoor.P
end

section
namespace Go.Proofs.YthfohhpjanoimaaDoor.P
open Go.RowKit Go.Proofs.YthfohhpjanoimaaDoorW.PrintWords Go.Proofs.YthfohhpjanoimaaDoorW.PrintLast Go.Proofs.YthfohhpjanoimaaDoorW.PrintMore Go.Proofs.YthfohhpjanoimaaDoorM
attribute [local go_sem] max2_int min2_int max_two min_two max_three min_three max_four min_four   -- for this text's walks alone
set_option linter.unusedVariables false
set_option linter.unusedSimpArgs false
end Go.Proofs.YthfohhpjanoimaaDoor.P
end

section
namespace Go.Proofs.YthfohhpjanoimaaDoor.P
open Go.RowKit Go.Proofs.YthfohhpjanoimaaDoorW.PrintWords Go.Proofs.YthfohhpjanoimaaDoorW.PrintLast Go.Proofs.YthfohhpjanoimaaDoorW.PrintMore Go.Proofs.YthfohhpjanoimaaDoorM
attribute [local go_sem] max2_int min2_int max_two min_two max_three min_three max_four min_four   -- for this text's walks alone
set_option linter.unusedVariables false
set_option linter.unusedSimpArgs false
end Go.Proofs.YthfohhpjanoimaaDoor.P
end

section
namespace Go.Proofs.YthfohhpjanoimaaDoor.P
open Go.RowKit Go.Proofs.YthfohhpjanoimaaDoorW.PrintWords Go.Proofs.YthfohhpjanoimaaDoorW.PrintLast Go.Proofs.YthfohhpjanoimaaDoorW.PrintMore Go.Proofs.YthfohhpjanoimaaDoorM
attribute [local go_sem] max2_int min2_int max_two min_two max_three min_three max_four min_four   -- for this text's walks alone
set_option linter.unusedVariables false
set_option linter.unusedSimpArgs false
attribute [local go_sem high] eqA88
end Go.Proofs.YthfohhpjanoimaaDoor.P
end

section
namespace Go.Proofs.YthfohhpjanoimaaDoor.P
open Go.RowKit Go.Proofs.YthfohhpjanoimaaDoorW.PrintWords Go.Proofs.YthfohhpjanoimaaDoorW.PrintLast Go.Proofs.YthfohhpjanoimaaDoorW.PrintMore Go.Proofs.YthfohhpjanoimaaDoorM
attribute [local go_sem] max2_int min2_int max_two min_two max_three min_three max_four min_four   -- for this text's walks alone
set_option linter.unusedVariables false
set_option linter.unusedSimpArgs false
end Go.Proofs.YthfohhpjanoimaaDoor.P
end

section
namespace Go.Proofs.YthfohhpjanoimaaDoor.P
open Go.RowKit Go.Proofs.YthfohhpjanoimaaDoorW.PrintWords Go.Proofs.YthfohhpjanoimaaDoorW.PrintLast Go.Proofs.YthfohhpjanoimaaDoorW.PrintMore Go.Proofs.YthfohhpjanoimaaDoorM
attribute [local go_sem] max2_int min2_int max_two min_two max_three min_three max_four min_four   -- for this text's walks alone
set_option linter.unusedVariables false
set_option linter.unusedSimpArgs false
end Go.Proofs.YthfohhpjanoimaaDoor.P
end

section
namespace Go.Proofs.YthfohhpjanoimaaDoor.P
open Go.RowKit Go.Proofs.YthfohhpjanoimaaDoorW.PrintWords Go.Proofs.YthfohhpjanoimaaDoorW.PrintLast Go.Proofs.YthfohhpjanoimaaDoorW.PrintMore Go.Proofs.YthfohhpjanoimaaDoorM
attribute [local go_sem] max2_int min2_int max_two min_two max_three min_three max_four min_four   -- for this text's walks alone
set_option linter.unusedVariables false
set_option linter.unusedSimpArgs false
def impl_VersionOk.f (k : Nat) (a0 : ByteArray) : Option (Bool) := (impl_parts.f k a0).bind fun bt200 => (some bt200.2)
set_option maxHeartbeats 8000000 in
set_option maxRecDepth 100000 in
theorem impl_VersionOk.calls (k : Nat) (a0 : ByteArray) (r : Bool) (w : World) (h : impl_VersionOk.f k a0 = some r) :
    Calls Tryd.prog 22 #[.string a0] w fun e w' => e = .returned (.bool r) ∧ Below w.heap.size w w' := by
  have HB := Aside0.mk (Below.refl w.heap.size w)
  have H : ((impl_parts.f k a0).bind fun bt200 => (some bt200.2)) = some r := h
  clear h
  replace H := Option.bind_eq_some_iff.mp H
  obtain ⟨⟨t200, t201⟩, A20, H⟩ := H
  replace H : (some t201) = some r := H
  have A2 := Aside0.mk A20
  clear A20
  obtain rfl := Option.some.inj H
  go_enter Tryd.func22, Tryd.ntmps22
  go_wp2_with (first | ((with_reducible refine gate_callee (f := 38) rfl ?_); refine goesL_ (some 7) rfl rfl Tryd.func38 (by kernel_rfl) rfl #[.string a0] rfl (by (try simp only [List.map_toArray, List.map_cons, List.map_nil]); first | done | rfl | (simp only [List.length_drop, List.length_take]; rfl)) ?_; (with_reducible refine (impl_parts.calls k a0 t200 t201 _ A2.out).mono ?_); rintro e w3 ⟨v202, rfl, ho0, hb⟩; refine ⟨_, rfl, ?_⟩; have n0_ := Aside0.mk (Kd.R_lower ho0 (below_size (by repeat (first | (with_reducible first | exact HB.out | apply below_alloc | apply pw_below_drewN | apply below_drew1) | exact HB.out)))); have n1_ := Aside0.mk (below_step (by repeat (first | (with_reducible first | exact HB.out | apply below_alloc | apply pw_below_drewN | apply below_drew1) | exact HB.out)) hb); clear HB; have HO203 := n0_; have HB := n1_; clear n0_ n1_; (try clear hb); (try clear hb2); (try clear hk); (try clear hi); (try clear ho0)))
  go_ret
  exact ⟨by first | rfl | (simp [errW_none, errW_some] <;> rfl) | (simp [*, errW_none, errW_some] <;> rfl), by repeat (first | (with_reducible first | exact HB.out | apply below_alloc | apply pw_below_drewN | apply below_drew1) | exact HB.out)⟩
set_option maxHeartbeats 400000 in
theorem impl_Term.cl (x : S38) (w : World) :
  Calls Tryd.prog 24 #[.agg #[.string x.f0, .string x.f1]] w fun e w' => e = .returned (.bool (x.f0.toList == [42])) ∧ Below w.heap.size w w' := by
  have hu38 := Tryd.underlying38
  go_enter Tryd.func24, Tryd.ntmps24
  go_wp2
  go_ret
  exact ⟨rfl, by repeat (first | (with_reducible first | exact Below.refl _ _ | apply below_alloc | apply pw_below_drewN | apply below_drew1) | exact Below.refl _ _)⟩
def impl_Term.q (e : S38) : Bool := e.f0.toList == [42]
def impl_Term.first : List S38 → Int → Int
  | [], _ => -1
  | e :: t, i => if impl_Term.q e = true then i else impl_Term.first t (i + 1)
theorem impl_Term.fi_end (l : List S38) (i : Nat) (h : l.length ≤ i) : impl_Term.first (l.drop i) i = -1 := by
  rw [List.drop_eq_nil_of_le h]; rfl
theorem impl_Term.fi_yes (l : List S38) (i : Nat) (h : i < l.length) (hc : impl_Term.q (rd_T38 l i) = true) : impl_Term.first (l.drop i) i = i := by
  rw [List.drop_eq_getElem_cons h, impl_Term.first, if_pos]
  simpa [rd_T38, List.getD_eq_getElem?_getD, List.getElem?_eq_getElem h] using hc
theorem impl_Term.fi_no (l : List S38) (i : Nat) (h : i < l.length) (hc : impl_Term.q (rd_T38 l i) = false) : impl_Term.first (l.drop i) i = impl_Term.first (l.drop (i + 1)) ((i + 1 : Nat) : Int) := by
  rw [List.drop_eq_getElem_cons h, impl_Term.first, if_neg]
  · rfl
  · simpa [rd_T38, List.getD_eq_getElem?_getD, List.getElem?_eq_getElem h] using hc
set_option maxRecDepth 100000 in
set_option maxHeartbeats 1000000 in
theorem impl_Term.indexFunc (A0 : Option Addr) (c0 : Nat) (l0 : List S38) (w : World) (hr0 : Kd.C k38 w A0 l0.length l0) (hc0 : l0.length ≤ c0) :
  Calls Tryd.prog 39 #[.slice A0 l0.length c0, .func (.func 24) #[] #[]] w fun e w' => e = .returned (.int .i64 (impl_Term.first l0 0)) ∧ Below w.heap.size w w' := by
  have hu38 := Tryd.underlying38
  have HR0 := Aside0.mk hr0
  have HC0 := Aside0.mk hc0
  have hl := hr0.2.1
  clear hr0 hc0
  have HB := Aside0.mk (Below.refl w.heap.size w)
  go_enter Tryd.func39, Tryd.ntmps39
  go_wp2
  go_loopw [8] (fun v8 w' => ∃ i : Nat, v8 = .int .i64 i ∧ i ≤ l0.length ∧ Aside0 (impl_Term.first l0 0 = impl_Term.first (l0.drop i) i) ∧ Aside0 (Below w.heap.size w w')) (fun v8 _ => l0.length - (intOf v8).toNat)
  case atStart => exact ⟨0, rfl, Nat.zero_le _, ⟨rfl⟩, ⟨Below.refl _ _⟩⟩
  case round =>
    clear HB
    obtain ⟨i, rfl, hi, HF, HB⟩ := hrel
    by_cases hlt : i < l0.length
    · have p1 : 0 ≤ (i : Int) := by omega
      have q1 : (i : Int) < (l0.length : Int) := by omega
      obtain ⟨ad, e1, hx_0, hx_1⟩ := at_T38 HR0.out i p1 q1
      cases e1
      replace hx_0 := (HB.out.cell (World.block_lt_of_cell? w _ hx_0)).trans hx_0
      replace hx_1 := (HB.out.cell (World.block_lt_of_cell? w _ hx_1)).trans hx_1
      simp only [Int.toNat_natCast] at hx_0 hx_1
      have c1 : decide ((i : Int) < (l0.length : Int)) = true := by simpa using hlt
      have c2 : decide ((i : Nat) < l0.length) = true := by simpa using hlt
      cases hcc : impl_Term.q (rd_T38 l0 i) with
      | true =>
        have HCC := Aside0.mk hcc
        clear hcc
        go_wp2_with (go_at_call 24; refine (impl_Term.cl (rd_T38 l0 i) _).mono ?_; rintro e w8 ⟨rfl, hb8⟩; rw [show ((rd_T38 l0 i).f0.toList == [42]) = true from HCC.out])
        go_ret
        refine ⟨?_, below_step HB.out hb8⟩
        rw [HF.out, impl_Term.fi_yes l0 i hlt HCC.out]
        rfl
      | false =>
        have HCC := Aside0.mk hcc
        clear hcc
        have hw : wrap64 ((i : Int) + 1) = ((i + 1 : Nat) : Int) := by unfold wrap64; omega
        go_wp2_with (go_at_call 24; refine (impl_Term.cl (rd_T38 l0 i) _).mono ?_; rintro e w8 ⟨rfl, hb8⟩; rw [show ((rd_T38 l0 i).f0.toList == [42]) = false from HCC.out])
        go_roundw
        case rel => exact ⟨i + 1, by first | rfl | (rw [hw]) | (congr 1), by omega, ⟨by rw [HF.out, impl_Term.fi_no l0 i hlt HCC.out]⟩, ⟨below_step HB.out hb8⟩⟩
        case measure => simp [intOf]; omega
    · have c1 : decide ((i : Int) < (l0.length : Int)) = false := by simpa using hlt
      have c2 : decide ((i : Nat) < l0.length) = false := by simpa using hlt
      go_wp2
      go_ret
      refine ⟨?_, HB.out⟩
      rw [HF.out, impl_Term.fi_end l0 i (by omega)]
      rfl
theorem impl_Term.first_any : ∀ (l : List S38) (i : Nat), decide (0 ≤ impl_Term.first l (i : Int)) = l.any impl_Term.q
  | [], i => rfl
  | e :: l, i => by
    rw [impl_Term.first, List.any_cons]
    cases h : impl_Term.q e with
    | true => rw [if_pos rfl]; simp
    | false =>
      rw [if_neg (by decide), show ((i : Int) + 1) = ((i + 1 : Nat) : Int) by omega, impl_Term.first_any l (i + 1)]
      simp
def impl_Term.f (l0 : List S38) : Option Bool := some (l0.any impl_Term.q)
theorem impl_Term.calls (A0 : Option Addr) (c0 : Nat) (l0 : List S38) (r : Bool) (w : World) (hr0 : Kd.C k38 w A0 l0.length l0) (hc0 : l0.length ≤ c0) (h : impl_Term.f l0 = some r) :
    Calls Tryd.prog 23 #[.slice A0 l0.length c0, .func (.func 24) #[] #[]] w fun e w' => e = .returned (.bool r) ∧ Below w.heap.size w w' := by
  obtain rfl := Option.some.inj h
  have HR0 := Aside0.mk hr0
  have HC0 := Aside0.mk hc0
  have h1 := impl_Term.first_any l0 0
  clear hr0 hc0 h
  go_enter Tryd.func23, Tryd.ntmps23
  go_wp2_with (go_at_call 39; refine (impl_Term.indexFunc A0 c0 l0 _ HR0.out HC0.out).mono ?_; rintro e w8 ⟨rfl, hb8⟩)
  go_ret
  exact ⟨by rw [← h1]; rfl, hb8⟩
end Go.Proofs.YthfohhpjanoimaaDoor.P
end

section
namespace Go.Proofs.YthfohhpjanoimaaDoor.P
open Go.RowKit Go.Proofs.YthfohhpjanoimaaDoorW.PrintWords Go.Proofs.YthfohhpjanoimaaDoorW.PrintLast Go.Proofs.YthfohhpjanoimaaDoorW.PrintMore Go.Proofs.YthfohhpjanoimaaDoorM
attribute [local go_sem] max2_int min2_int max_two min_two max_three min_three max_four min_four   -- for this text's walks alone
set_option linter.unusedVariables false
set_option linter.unusedSimpArgs false
mutual
def impl_ReadConstraint.l0 : Nat → List (List (S38)) → List ByteArray → Int → Int → Option ((List (List (S38))) × Bool)
  | 0, _, _, _, _ => none
  | k + 1, x4, x17, x18, x19 => if x19 < x18 then (if 0 ≤ x19 then (if x19 < (x17.length : Int) then ((strings_Split.f (rdOf ByteArray.empty x17 x19) (⟨#[32]⟩ : ByteArray)).bind fun t208 => (impl_ReadConstraint.l1 k x4 ([] : List (S38)) x17 x18 x19 t208 (t208.length : Int) 0)) else (none)) else (none)) else (some (x4, true))
def impl_ReadConstraint.l1 : Nat → List (List (S38)) → List (S38) → List ByteArray → Int → Int → List ByteArray → Int → Int → Option ((List (List (S38))) × Bool)
  | 0, _, _, _, _, _, _, _, _ => none
  | k + 1, x4, x7, x17, x18, x19, x24, x25, x26 => if x26 < x25 then (if 0 ≤ x26 then (if x26 < (x24.length : Int) then (if (rdOf ByteArray.empty x24 x26).toList = ([] : List UInt8) then (impl_ReadConstraint.l1 k x4 x7 x17 x18 x19 x24 x25 (wrap64 (x26 + 1))) else ((some (([(⟨#[42]⟩ : ByteArray), (⟨#[33, 61]⟩ : ByteArray), (⟨#[62, 61]⟩ : ByteArray), (⟨#[60, 61]⟩ : ByteArray), (⟨#[61]⟩ : ByteArray), (⟨#[62]⟩ : ByteArray), (⟨#[60]⟩ : ByteArray), (⟨#[94]⟩ : ByteArray), (⟨#[126]⟩ : ByteArray)] : List ByteArray) : List ByteArray)).bind fun y220 => (impl_ReadConstraint.l2 k x4 x7 (rdOf ByteArray.empty x24 x26) x17 x18 x19 x24 x25 x26 y220 (y220.length : Int) 0 (⟨#[]⟩ : ByteArray) (⟨#[]⟩ : ByteArray)))) else (none)) else (none)) else (if (x7.length : Int) = 0 then (some (([] : List (List (S38))), false)) else (if (x7.length : Int) > 1 then ((impl_Term.f x7).bind fun t211 => (if t211 = true then (some (([] : List (List (S38))), false)) else (if x4.length < 5864062014805 then (impl_ReadConstraint.l0 k (x4 ++ [x7]) x17 x18 (wrap64 (x19 + 1))) else (none)))) else (if x4.length < 5864062014805 then (impl_ReadConstraint.l0 k (x4 ++ [x7]) x17 x18 (wrap64 (x19 + 1))) else (none))))
def impl_ReadConstraint.l2 : Nat → List (List (S38)) → List (S38) → ByteArray → List ByteArray → Int → Int → List ByteArray → Int → Int → List ByteArray → Int → Int → ByteArray → ByteArray → Option ((List (List (S38))) × Bool)
  | 0, _, _, _, _, _, _, _, _, _, _, _, _, _, _ => none
  | k + 1, x4, x7, x9, x17, x18, x19, x24, x25, x26, x33, x34, x35, x220000, x220001 => if x35 < x34 then (if 0 ≤ x35 then (if x35 < (x33.length : Int) then ((strings_HasPrefix.f x9 (rdOf ByteArray.empty x33 x35)).bind fun t224 => (if t224 = true then (if 0 ≤ ((rdOf ByteArray.empty x33 x35).size : Int) then (if ((rdOf ByteArray.empty x33 x35).size : Int) ≤ (x9.size : Int) then (if (rdOf ByteArray.empty x33 x35).toList = ([] : List UInt8) then (some (([] : List (List (S38))), false)) else (if (rdOf ByteArray.empty x33 x35).toList = ([42] : List UInt8) then (if (x9.extract ((rdOf ByteArray.empty x33 x35).size) x9.size).toList = ([] : List UInt8) then (if x7.length < 4398046511104 then (impl_ReadConstraint.l1 k x4 (x7 ++ [(⟨rdOf ByteArray.empty x33 x35, x9.extract ((rdOf ByteArray.empty x33 x35).size) x9.size⟩ : S38)]) x17 x18 x19 x24 x25 (wrap64 (x26 + 1))) else (none)) else (some (([] : List (List (S38))), false))) else ((impl_VersionOk.f k (x9.extract ((rdOf ByteArray.empty x33 x35).size) x9.size)).bind fun t228 => (if t228 = true then (if x7.length < 4398046511104 then (impl_ReadConstraint.l1 k x4 (x7 ++ [(⟨rdOf ByteArray.empty x33 x35, x9.extract ((rdOf ByteArray.empty x33 x35).size) x9.size⟩ : S38)]) x17 x18 x19 x24 x25 (wrap64 (x26 + 1))) else (none)) else (some (([] : List (List (S38))), false)))))) else (none)) else (none)) else (impl_ReadConstraint.l2 k x4 x7 x9 x17 x18 x19 x24 x25 x26 x33 x34 (wrap64 (x35 + 1)) x220000 x220001))) else (none)) else (none)) else (if x220000.toList = ([] : List UInt8) then (some (([] : List (List (S38))), false)) else (if x220000.toList = ([42] : List UInt8) then (if x220001.toList = ([] : List UInt8) then (if x7.length < 4398046511104 then (impl_ReadConstraint.l1 k x4 (x7 ++ [(⟨x220000, x220001⟩ : S38)]) x17 x18 x19 x24 x25 (wrap64 (x26 + 1))) else (none)) else (some (([] : List (List (S38))), false))) else ((impl_VersionOk.f k x220001).bind fun t235 => (if t235 = true then (if x7.length < 4398046511104 then (impl_ReadConstraint.l1 k x4 (x7 ++ [(⟨x220000, x220001⟩ : S38)]) x17 x18 x19 x24 x25 (wrap64 (x26 + 1))) else (none)) else (some (([] : List (List (S38))), false))))))
end
def impl_ReadConstraint.f (k : Nat) (a0 : ByteArray) : Option ((List (List (S38))) × Bool) := if (a0.size : Int) > 200 then (some (([] : List (List (S38))), false)) else ((strings_Split.f a0 (⟨#[124, 124]⟩ : ByteArray)).bind fun t204 => (impl_ReadConstraint.l0 k ([] : List (List (S38))) t204 (t204.length : Int) 0))
set_option maxHeartbeats 8000000 in
set_option maxRecDepth 100000 in
theorem impl_ReadConstraint.calls (k : Nat) (a0 : ByteArray) (r1 : List (List (S38))) (r2 : Bool) (w : World) (hE : EnvW w) (h : impl_ReadConstraint.f k a0 = some (r1, r2)) :
    Calls Tryd.prog 7 #[.string a0] w fun e w' => ∃ v0_ : Value, e = .returned (.tuple #[v0_, .bool r2]) ∧ Kd.S (Kd.slice 38 k38) 36 w' w.heap.size (fun _ => True) v0_ r1 ∧ Below w.heap.size w w' := by
  have hu38 := Tryd.underlying38
  have HE := Aside0.mk hE
  clear hE
  have HB := Aside0.mk (Below.refl w.heap.size w)
  have H : (if (a0.size : Int) > 200 then (some (([] : List (List (S38))), false)) else ((strings_Split.f a0 (⟨#[124, 124]⟩ : ByteArray)).bind fun t204 => (impl_ReadConstraint.l0 k ([] : List (List (S38))) t204 (t204.length : Int) 0))) = some (r1, r2) := h
  clear h
  by_cases c2 : (a0.size : Int) > 200
  · rw [if_pos c2] at H
    have c2b0 : decide (200 < (a0.size : Int)) = true := decide_eq_true c2
    have c2b1 : decide (200 < a0.size) = true := decide_eq_true (by omega)
    clear c2
    simp only [Option.some.injEq, Prod.mk.injEq] at H
    obtain ⟨rfl, rfl⟩ := H
    go_enter Tryd.func7, Tryd.ntmps7
    go_wp2
    go_ret2
    exact ⟨_, by first | rfl | (simp [errW_none, errW_some] <;> rfl) | (simp [*, errW_none, errW_some] <;> rfl), by first | exact Kd.S_nil _ _ _ _ _ | exact Kd.N_nil _ _ _ _ _ | exact Kd.V_nil _ _ _ _ _ | exact Kd.Q_nil _ _ _ _ _ | exact Kd.R_nil _ _ _ _ _, by repeat (first | (with_reducible first | exact HB.out | apply below_alloc | apply pw_below_drewN | apply below_drew1) | exact HB.out)⟩
  · rw [if_neg c2] at H
    have c2b0 : decide (200 < (a0.size : Int)) = false := decide_eq_false c2
    have c2b1 : decide (200 < a0.size) = false := decide_eq_false (by omega)
    clear c2
    replace H := Option.bind_eq_some_iff.mp H
    obtain ⟨t204, A30, H⟩ := H
    replace H : (impl_ReadConstraint.l0 k ([] : List (List (S38))) t204 (t204.length : Int) 0) = some (r1, r2) := H
    have A3 := Aside0.mk A30
    clear A30
    have H' := Aside0.mk H
    clear H
    go_enter Tryd.func7, Tryd.ntmps7
    go_wp2_with (first | ((with_reducible refine gate_callee (f := 20) rfl ?_); refine goesL_ (some 17) rfl rfl Tryd.func20 (by kernel_rfl) rfl #[.string a0, .string (⟨#[124, 124]⟩ : ByteArray)] rfl (by (try simp only [List.map_toArray, List.map_cons, List.map_nil]); first | done | rfl | (simp only [List.length_drop, List.length_take]; rfl)) ?_; (with_reducible refine (strings_Split.calls a0 (⟨#[124, 124]⟩ : ByteArray) t204 _ ?side1 A3.out).mono ?_); (case side1 => refine EnvW.below HE.out ?_; repeat (first | (with_reducible first | exact HB.out | apply below_alloc | apply pw_below_drewN | apply below_drew1) | exact HB.out)); rintro e w4 ⟨v205, rfl, ho0, hb⟩; refine ⟨_, rfl, ?_⟩; have n0_ := Aside0.mk (Kd.R_lower ho0 (below_size (by repeat (first | (with_reducible first | exact HB.out | apply below_alloc | apply pw_below_drewN | apply below_drew1) | exact HB.out)))); have n1_ := Aside0.mk (below_step (by repeat (first | (with_reducible first | exact HB.out | apply below_alloc | apply pw_below_drewN | apply below_drew1) | exact HB.out)) hb); clear HB; have HO206 := n0_; have HB := n1_; clear n0_ n1_; (try clear hb); (try clear hb2); (try clear hk); (try clear hi); (try clear ho0); obtain ⟨Ao5, co5, eo5⟩ := Kd.R_slice HO206.out; subst eo5))
    go_loopg [4, 19] k (fun kq v4 v19 w' => ∃ (x4_1 : List (List (S38))) (x19_1 : Int), v19 = .int .i64 x19_1 ∧ Aside0 (impl_ReadConstraint.l0 kq x4_1 t204 (t204.length : Int) x19_1 = some (r1, r2)) ∧ Aside0 (kq ≤ k) ∧ Aside0 (Kd.S (Kd.slice 38 k38) 36 w' w.heap.size (fun _ => True) v4 x4_1) ∧ Aside0 (Kd.R Kd.string 9 w' w.heap.size (fun _ => True) (.slice Ao5 t204.length co5) t204) ∧ Aside0 (Below w.heap.size w w'))
    case atStart => exact ⟨(([] : List (List (S38)))), (0), (by first | rfl | (simp; done) | (simp [*]; done)), H', ⟨Nat.le_refl _⟩, ⟨by first | exact Kd.S_nil _ _ _ _ _ | exact Kd.N_nil _ _ _ _ _ | exact Kd.V_nil _ _ _ _ _ | exact Kd.Q_nil _ _ _ _ _ | exact Kd.R_nil _ _ _ _ _⟩, ⟨by (with_reducible repeat (first | apply Kd.R_alloc | apply Kd.R_drewN | apply Kd.R_drew)); exact HO206.out⟩, ⟨by repeat (first | (with_reducible first | exact HB.out | apply below_alloc | apply pw_below_drewN | apply below_drew1) | exact HB.out)⟩⟩
    case round =>
      clear H'
      try clear c2
      try clear c2b0
      try clear c2b1
      try clear p2
      obtain ⟨x4_1, x19_1, rfl, HA, HK1, HO_4, HO_17, HB⟩ := hrel
      cases gk with
      | zero => exact absurd HA.out (by simp [impl_ReadConstraint.l0])
      | succ k1 =>
        have H := HA.out
        clear HA
        simp only [impl_ReadConstraint.l0] at H
        by_cases c6 : x19_1 < (t204.length : Int)
        · rw [if_pos c6] at H
          have c6b0 : decide (x19_1 < (t204.length : Int)) = true := decide_eq_true c6
          clear c6
          by_cases c7 : 0 ≤ x19_1
          · rw [if_pos c7] at H
            have c7b0 : decide (0 ≤ x19_1) = true := decide_eq_true c7
            clear c7
            by_cases c8 : x19_1 < (t204.length : Int)
            · rw [if_pos c8] at H
              have c8b0 : decide (x19_1 < (t204.length : Int)) = true := decide_eq_true c8
              clear c8
              replace H := Option.bind_eq_some_iff.mp H
              obtain ⟨t208, A90, H⟩ := H
              replace H : (impl_ReadConstraint.l1 k1 x4_1 ([] : List (S38)) t204 (t204.length : Int) x19_1 t208 (t208.length : Int) 0) = some (r1, r2) := H
              have A9 := Aside0.mk A90
              clear A90
              have H' := Aside0.mk H
              clear H
              have p207 : 0 ≤ (x19_1 : Int) := of_decide_eq_true (by first | (with_reducible assumption) | assumption)
              have q207 : x19_1 < (t204.length : Int) := of_decide_eq_true (by first | (with_reducible assumption) | assumption)
              obtain ⟨ad207, e207, hx207_0⟩ := Kd.at_string (Kd.R_reads' HO_17.out).2.2 x19_1 p207 q207
              cases e207
              replace p207 := eq_true p207
              replace q207 := eq_true q207
              go_wp2_with (first | ((with_reducible refine gate_callee (f := 20) rfl ?_); refine goesL_ (some 24) rfl rfl Tryd.func20 (by kernel_rfl) rfl #[.string (rdOf ByteArray.empty t204 x19_1), .string (⟨#[32]⟩ : ByteArray)] rfl (by (try simp only [List.map_toArray, List.map_cons, List.map_nil]); first | done | rfl | (simp only [List.length_drop, List.length_take]; rfl)) ?_; (with_reducible refine (strings_Split.calls (rdOf ByteArray.empty t204 x19_1) (⟨#[32]⟩ : ByteArray) t208 _ ?side1 A9.out).mono ?_); (case side1 => refine EnvW.below HE.out ?_; repeat (first | (with_reducible first | exact HB.out | apply below_alloc | apply pw_below_drewN | apply below_drew1) | exact HB.out)); rintro e w10 ⟨v209, rfl, ho0, hb⟩; refine ⟨_, rfl, ?_⟩; have n0_ := Aside0.mk (Kd.S_below (by (with_reducible repeat (first | apply Kd.S_alloc | apply Kd.S_drewN | apply Kd.S_drew)); exact HO_4.out) hb); have n1_ := Aside0.mk (Kd.R_elder' (by (with_reducible repeat (first | apply Kd.R_alloc | apply Kd.R_drewN | apply Kd.R_drew)); exact HO_17.out) (Kd.R_base ho0) hb); have n2_ := Aside0.mk (Kd.R_lower (Kd.R_new' ho0 (Kd.R_lt (by (with_reducible repeat (first | apply Kd.R_alloc | apply Kd.R_drewN | apply Kd.R_drew)); exact HO_17.out))) (below_size (by repeat (first | (with_reducible first | exact HB.out | apply below_alloc | apply pw_below_drewN | apply below_drew1) | exact HB.out)))); have n3_ := Aside0.mk (below_step (by repeat (first | (with_reducible first | exact HB.out | apply below_alloc | apply pw_below_drewN | apply below_drew1) | exact HB.out)) hb); clear HO_4; clear HO_17; clear HB; have HO_4 := n0_; have HO_17 := n1_; have HO210 := n2_; have HB := n3_; clear n0_ n1_ n2_ n3_; (try clear hb); (try clear hb2); (try clear hk); (try clear hi); (try clear ho0); obtain ⟨Ao11, co11, eo11⟩ := Kd.R_slice HO210.out; subst eo11))
              go_loopg [7, 26] k1 (fun kq v7 v26 w' => ∃ (x7_2 : List (S38)) (x26_2 : Int), v26 = .int .i64 x26_2 ∧ Aside0 (impl_ReadConstraint.l1 kq x4_1 x7_2 t204 (t204.length : Int) x19_1 t208 (t208.length : Int) x26_2 = some (r1, r2)) ∧ Aside0 (kq ≤ k1) ∧ Aside0 (Kd.S (Kd.slice 38 k38) 36 w' w.heap.size (fun k_ => some k_ ≠ (v7 : Value).ownBlock) u4 x4_1) ∧ Aside0 (Kd.R k38 38 w' w.heap.size (fun _ => True) v7 x7_2) ∧ Aside0 (Kd.R Kd.string 9 w' w.heap.size (fun k_ => some k_ ≠ ((.slice Ao11 t208.length co11) : Value).ownBlock) (.slice (some ad207) t204.length co5) t204) ∧ Aside0 (Kd.R Kd.string 9 w' w.heap.size (fun k_ => some k_ ≠ ((.slice (some ad207) t204.length co5) : Value).ownBlock) (.slice Ao11 t208.length co11) t208) ∧ Aside0 (Below w.heap.size w w'))
              case atStart => exact ⟨(([] : List (S38))), (0), (by first | rfl | (simp; done) | (simp [*]; done)), H', ⟨Nat.le_refl _⟩, ⟨by (with_reducible repeat (first | apply Kd.S_alloc | apply Kd.S_drewN | apply Kd.S_drew)); exact Kd.S_mono HO_4.out (fun _ hk => (by simp [Value.ownBlock]))⟩, ⟨by first | exact Kd.R_nil _ _ _ _ _ | exact Kd.N_nil _ _ _ _ _ | exact Kd.V_nil _ _ _ _ _ | exact Kd.Q_nil _ _ _ _ _ | exact Kd.S_nil _ _ _ _ _⟩, ⟨by (with_reducible repeat (first | apply Kd.R_alloc | apply Kd.R_drewN | apply Kd.R_drew)); exact Kd.R_mono HO_17.out (fun _ hk => hk.2)⟩, ⟨by (with_reducible repeat (first | apply Kd.R_alloc | apply Kd.R_drewN | apply Kd.R_drew)); exact Kd.R_mono HO210.out (fun _ hk => hk.2)⟩, ⟨by repeat (first | (with_reducible first | exact HB.out | apply below_alloc | apply pw_below_drewN | apply below_drew1) | exact HB.out)⟩⟩
              case round =>
                clear H'
                try clear c2
                try clear c2b0
                try clear c2b1
                try clear p2
                try clear q2
                try clear hx2
                try clear c6
                try clear c6b0
                try clear c7
                try clear c7b0
                try clear c8
                try clear c8b0
                try clear hx207_0
                try clear p2
                try clear p207
                try clear q207
                obtain ⟨x7_2, x26_2, rfl, HA, HK2, HO_4, HO_7, HO_17, HO_24, HB⟩ := hrel
                cases gk with
                | zero => exact absurd HA.out (by simp [impl_ReadConstraint.l1])
                | succ k2 =>
                  have H := HA.out
                  clear HA
                  simp only [impl_ReadConstraint.l1] at H
                  by_cases c12 : x26_2 < (t208.length : Int)
                  · rw [if_pos c12] at H
                    have c12b0 : decide (x26_2 < (t208.length : Int)) = true := decide_eq_true c12
                    clear c12
                    by_cases c13 : 0 ≤ x26_2
                    · rw [if_pos c13] at H
                      have c13b0 : decide (0 ≤ x26_2) = true := decide_eq_true c13
                      clear c13
                      by_cases c14 : x26_2 < (t208.length : Int)
                      · rw [if_pos c14] at H
                        have c14b0 : decide (x26_2 < (t208.length : Int)) = true := decide_eq_true c14
                        clear c14
                        by_cases c15 : (rdOf ByteArray.empty t208 x26_2).toList = ([] : List UInt8)
                        · rw [if_pos c15] at H
                          have c15b0 : ((rdOf ByteArray.empty t208 x26_2).toList == ([] : List UInt8)) = true := beq_iff_eq.mpr c15
                          have c15b1 : ((rdOf ByteArray.empty t208 x26_2).toList != ([] : List UInt8)) = false := bne_eq_false_iff_eq.mpr c15
                          clear c15
                          have H' := Aside0.mk H
                          clear H
                          have p218 : 0 ≤ (x26_2 : Int) := of_decide_eq_true (by first | (with_reducible assumption) | assumption)
                          have q218 : x26_2 < (t208.length : Int) := of_decide_eq_true (by first | (with_reducible assumption) | assumption)
                          obtain ⟨ad218, e218, hx218_0⟩ := Kd.at_string (Kd.R_reads' HO_24.out).2.2 x26_2 p218 q218
                          cases e218
                          replace p218 := eq_true p218
                          replace q218 := eq_true q218
                          go_wp2
                          go_roundg k2
                          case measure => have := HK1.out; have := HK2.out; omega
                          case rel => exact ⟨(x7_2), (wrap64 (x26_2 + 1)), (by first | rfl | (simp; done) | (simp [*]; done)), H', ⟨by have := HK1.out; have := HK2.out; omega⟩, ⟨by (with_reducible repeat (first | apply Kd.S_alloc | apply Kd.S_drewN | apply Kd.S_drew)); exact HO_4.out⟩, ⟨by (with_reducible repeat (first | apply Kd.R_alloc | apply Kd.R_drewN | apply Kd.R_drew)); exact HO_7.out⟩, ⟨by (with_reducible repeat (first | apply Kd.R_alloc | apply Kd.R_drewN | apply Kd.R_drew)); exact HO_17.out⟩, ⟨by (with_reducible repeat (first | apply Kd.R_alloc | apply Kd.R_drewN | apply Kd.R_drew)); exact HO_24.out⟩, ⟨by repeat (first | (with_reducible first | exact HB.out | apply below_alloc | apply pw_below_drewN | apply below_drew1) | exact HB.out)⟩⟩
                        · rw [if_neg c15] at H
                          have c15b0 : ((rdOf ByteArray.empty t208 x26_2).toList == ([] : List UInt8)) = false := beq_eq_false_iff_ne.mpr c15
                          have c15b1 : ((rdOf ByteArray.empty t208 x26_2).toList != ([] : List UInt8)) = true := bne_iff_ne.mpr c15
                          obtain ⟨y220, hy220⟩ : ∃ y_ : List ByteArray, y_ = (([(⟨#[42]⟩ : ByteArray), (⟨#[33, 61]⟩ : ByteArray), (⟨#[62, 61]⟩ : ByteArray), (⟨#[60, 61]⟩ : ByteArray), (⟨#[61]⟩ : ByteArray), (⟨#[62]⟩ : ByteArray), (⟨#[60]⟩ : ByteArray), (⟨#[94]⟩ : ByteArray), (⟨#[126]⟩ : ByteArray)] : List ByteArray)) := ⟨_, rfl⟩
                          replace H : (impl_ReadConstraint.l2 k2 x4_1 x7_2 (rdOf ByteArray.empty t208 x26_2) t204 (t204.length : Int) x19_1 t208 (t208.length : Int) x26_2 y220 (y220.length : Int) 0 (⟨#[]⟩ : ByteArray) (⟨#[]⟩ : ByteArray)) = some (r1, r2) := by first | (rw [hy220]; with_reducible exact H) | (have H2_ := (Option.bind_some _ _).symm.trans H; rw [hy220]; with_reducible exact H2_) | (have H2_ := (Option.bind_some _ _).symm.trans H; with_reducible exact H2_) | with_reducible exact H | (rw [hy220]; exact H) | exact H
                          have Ny220 := Aside0.mk hy220
                          clear hy220
                          have H' := Aside0.mk H
                          clear H
                          have p218 : 0 ≤ (x26_2 : Int) := of_decide_eq_true (by first | (with_reducible assumption) | assumption)
                          have q218 : x26_2 < (t208.length : Int) := of_decide_eq_true (by first | (with_reducible assumption) | assumption)
                          obtain ⟨ad218, e218, hx218_0⟩ := Kd.at_string (Kd.R_reads' HO_24.out).2.2 x26_2 p218 q218
                          cases e218
                          replace p218 := eq_true p218
                          replace q218 := eq_true q218
                          go_wp2_with (first | ((with_reducible refine gate_dst (N := 10) rfl ?_); (try (refine gate_guard (by rfl) ?_; dsimp only)); refine box_event ?hg (N := 10) ?hd (cs := #[.string (⟨#[]⟩ : ByteArray), .string (⟨#[]⟩ : ByteArray)]) (t := 38) ?hr ?_; (case hd => rfl); (case hg => rfl); (case hr => first | (go_simp; done) | (go_simp; rfl)); intro gb219 hg w16 hbox hb; have n0_ := Aside0.mk (Kd.S_below (Kd.S_elderB (by (with_reducible repeat (first | apply Kd.S_alloc | apply Kd.S_drewN | apply Kd.S_drew)); exact HO_4.out) gb219 (Nat.le_of_eq hg.symm)) hb); have n1_ := Aside0.mk (Kd.R_below (Kd.R_elderB (by (with_reducible repeat (first | apply Kd.R_alloc | apply Kd.R_drewN | apply Kd.R_drew)); exact HO_7.out) gb219 (Nat.le_of_eq hg.symm)) hb); have n2_ := Aside0.mk (Kd.R_below (by (with_reducible repeat (first | apply Kd.R_alloc | apply Kd.R_drewN | apply Kd.R_drew)); exact HO_17.out) hb); have n3_ := Aside0.mk (Kd.R_below (by (with_reducible repeat (first | apply Kd.R_alloc | apply Kd.R_drewN | apply Kd.R_drew)); exact HO_24.out) hb); have n4_ := Aside0.mk (below_step (by repeat (first | (with_reducible first | exact HB.out | apply below_alloc | apply pw_below_drewN | apply below_drew1) | exact HB.out)) hb); have n5_ := Aside0.mk (hbox); have n6_ := Aside0.mk ((by rw [hg]; exact (below_size (by repeat (first | (with_reducible first | exact HB.out | apply below_alloc | apply pw_below_drewN | apply below_drew1) | exact HB.out))) : w.heap.size ≤ gb219)); have n7_ := Aside0.mk ((by rw [hg]; exact (below_size (by repeat (first | (with_reducible first | exact HB.out | apply below_alloc | apply pw_below_drewN | apply below_drew1) | exact HB.out))) : w.heap.size ≤ gb219)); clear HO_4; clear HO_7; clear HO_17; clear HO_24; clear HB; have HO_4 := n0_; have HO_7 := n1_; have HO_17 := n2_; have HO_24 := n3_; have HB := n4_; have BK219 := n5_; have GW219 := n6_; have GE219 := n7_; clear n0_ n1_ n2_ n3_ n4_ n5_ n6_ n7_; clear hb hbox hg; have hcz17_0 : w16.cell? ⟨gb219, 0, none⟩ = some (.string (⟨#[]⟩ : ByteArray)) := (blk_cell BK219.out 0).trans rfl; have hcz17_1 : w16.cell? ⟨gb219, 1, none⟩ = some (.string (⟨#[]⟩ : ByteArray)) := (blk_cell BK219.out 1).trans rfl; have hfz17_0 := blk_frozen BK219.out 0; have hfz17_1 := blk_frozen BK219.out 1) | ((with_reducible refine gate_dst (N := 33) rfl ?_); (try (refine gate_guard (by rfl) ?_; dsimp only)); refine Kd.R_lit Kd.string _ 9 ?hg (N := 33) ?hd (xs := ([(⟨#[42]⟩ : ByteArray), (⟨#[33, 61]⟩ : ByteArray), (⟨#[62, 61]⟩ : ByteArray), (⟨#[60, 61]⟩ : ByteArray), (⟨#[61]⟩ : ByteArray), (⟨#[62]⟩ : ByteArray), (⟨#[60]⟩ : ByteArray), (⟨#[94]⟩ : ByteArray), (⟨#[126]⟩ : ByteArray)] : List ByteArray)) (inner := [.string (⟨#[42]⟩ : ByteArray), .string (⟨#[33, 61]⟩ : ByteArray), .string (⟨#[62, 61]⟩ : ByteArray), .string (⟨#[60, 61]⟩ : ByteArray), .string (⟨#[61]⟩ : ByteArray), .string (⟨#[62]⟩ : ByteArray), .string (⟨#[60]⟩ : ByteArray), .string (⟨#[94]⟩ : ByteArray), .string (⟨#[126]⟩ : ByteArray)]) (ok := fun _ => True) (okp := fun _ => True) ?hr ?hp (fun _ hk => hk) trivial (Below.refl _ _) (Nat.le_refl _) (by simp) ?_; (case hd => rfl); (case hg => rfl); (case hr => first | (go_simp; done) | (go_simp; rfl)); (case hp => exact (Reps.one (show Kd.M Kd.string _ _ _ (⟨#[42]⟩ : ByteArray) [.string (⟨#[42]⟩ : ByteArray)] from rfl) (Reps.one (show Kd.M Kd.string _ _ _ (⟨#[33, 61]⟩ : ByteArray) [.string (⟨#[33, 61]⟩ : ByteArray)] from rfl) (Reps.one (show Kd.M Kd.string _ _ _ (⟨#[62, 61]⟩ : ByteArray) [.string (⟨#[62, 61]⟩ : ByteArray)] from rfl) (Reps.one (show Kd.M Kd.string _ _ _ (⟨#[60, 61]⟩ : ByteArray) [.string (⟨#[60, 61]⟩ : ByteArray)] from rfl) (Reps.one (show Kd.M Kd.string _ _ _ (⟨#[61]⟩ : ByteArray) [.string (⟨#[61]⟩ : ByteArray)] from rfl) (Reps.one (show Kd.M Kd.string _ _ _ (⟨#[62]⟩ : ByteArray) [.string (⟨#[62]⟩ : ByteArray)] from rfl) (Reps.one (show Kd.M Kd.string _ _ _ (⟨#[60]⟩ : ByteArray) [.string (⟨#[60]⟩ : ByteArray)] from rfl) (Reps.one (show Kd.M Kd.string _ _ _ (⟨#[94]⟩ : ByteArray) [.string (⟨#[94]⟩ : ByteArray)] from rfl) (Reps.one (show Kd.M Kd.string _ _ _ (⟨#[126]⟩ : ByteArray) [.string (⟨#[126]⟩ : ByteArray)] from rfl) (Reps.none _ _))))))))))); intro v221 w18 ho19 hb hg_ hnew_; clear hg_ hnew_; (first | rw [← Ny220.out] at ho19 | (simp only [Int.reduceToNat] at ho19; rw [← Ny220.out] at ho19)); have n0_ := Aside0.mk (Kd.S_below (by (with_reducible repeat (first | apply Kd.S_alloc | apply Kd.S_drewN | apply Kd.S_drew)); exact (Kd.S_mono (Kd.S_far (p := ⟨gb219, 1, none⟩) (Kd.S_far (p := ⟨gb219, 0, none⟩) (Kd.S_mono HO_4.out (fun k_ hk => (⟨hk, hk.2⟩ : _ ∧ k_ ≠ gb219))) (fun _ hk => hk.2) (.string (⟨#[]⟩ : ByteArray))) (fun _ hk => hk.2) (.string (⟨#[]⟩ : ByteArray))) (fun _ h_ => h_.1))) hb); have n1_ := Aside0.mk (Kd.R_below (by (with_reducible repeat (first | apply Kd.R_alloc | apply Kd.R_drewN | apply Kd.R_drew)); exact (Kd.R_mono (Kd.R_far (p := ⟨gb219, 1, none⟩) (Kd.R_far (p := ⟨gb219, 0, none⟩) (Kd.R_mono HO_7.out (fun k_ hk => (⟨hk, hk.2⟩ : _ ∧ k_ ≠ gb219))) (fun _ hk => hk.2) (.string (⟨#[]⟩ : ByteArray))) (fun _ hk => hk.2) (.string (⟨#[]⟩ : ByteArray))) (fun _ h_ => h_.1))) hb); have n2_ := Aside0.mk (Kd.R_elder' (by (with_reducible repeat (first | apply Kd.R_alloc | apply Kd.R_drewN | apply Kd.R_drew)); exact (Kd.R_mono (Kd.R_far (p := ⟨gb219, 1, none⟩) (Kd.R_far (p := ⟨gb219, 0, none⟩) (Kd.R_types HO_17.out BK219.out (by decide)) (fun _ hk => hk.2) (.string (⟨#[]⟩ : ByteArray))) (fun _ hk => hk.2) (.string (⟨#[]⟩ : ByteArray))) (fun _ h_ => h_.1))) (Kd.R_base ho19) hb); have n3_ := Aside0.mk (Kd.R_elder' (by (with_reducible repeat (first | apply Kd.R_alloc | apply Kd.R_drewN | apply Kd.R_drew)); exact (Kd.R_mono (Kd.R_far (p := ⟨gb219, 1, none⟩) (Kd.R_far (p := ⟨gb219, 0, none⟩) (Kd.R_types HO_24.out BK219.out (by decide)) (fun _ hk => hk.2) (.string (⟨#[]⟩ : ByteArray))) (fun _ hk => hk.2) (.string (⟨#[]⟩ : ByteArray))) (fun _ h_ => h_.1))) (Kd.R_base ho19) hb); have n4_ := Aside0.mk (Kd.R_lower (Kd.R_new' (Kd.R_new' ho19 (Kd.R_lt (by (with_reducible repeat (first | apply Kd.R_alloc | apply Kd.R_drewN | apply Kd.R_drew)); exact (Kd.R_mono (Kd.R_far (p := ⟨gb219, 1, none⟩) (Kd.R_far (p := ⟨gb219, 0, none⟩) (Kd.R_types HO_17.out BK219.out (by decide)) (fun _ hk => hk.2) (.string (⟨#[]⟩ : ByteArray))) (fun _ hk => hk.2) (.string (⟨#[]⟩ : ByteArray))) (fun _ h_ => h_.1))))) (Kd.R_lt (by (with_reducible repeat (first | apply Kd.R_alloc | apply Kd.R_drewN | apply Kd.R_drew)); exact (Kd.R_mono (Kd.R_far (p := ⟨gb219, 1, none⟩) (Kd.R_far (p := ⟨gb219, 0, none⟩) (Kd.R_types HO_24.out BK219.out (by decide)) (fun _ hk => hk.2) (.string (⟨#[]⟩ : ByteArray))) (fun _ hk => hk.2) (.string (⟨#[]⟩ : ByteArray))) (fun _ h_ => h_.1))))) (below_size (by repeat (first | (with_reducible first | exact HB.out | apply below_alloc | apply pw_below_drewN | apply below_drew1 | refine below_set ?_ GE219.out) | exact HB.out)))); have n5_ := Aside0.mk (blk_below (g := gb219) (o := .cells #[.string (⟨#[]⟩ : ByteArray), .string (⟨#[]⟩ : ByteArray)] 38 (0, 0)) (by (with_reducible repeat (first | refine blk_drewN ?_ _ | refine blk_drew ?_ | refine blk_alloc ?_ _)); refine blk_put (cs := #[.string (⟨#[]⟩ : ByteArray), .string (⟨#[]⟩ : ByteArray)]) ?_ 1 _ rfl; (with_reducible repeat (first | refine blk_drewN ?_ _ | refine blk_drew ?_ | refine blk_alloc ?_ _)); refine blk_put (cs := #[.string (⟨#[]⟩ : ByteArray), .string (⟨#[]⟩ : ByteArray)]) ?_ 0 _ rfl; (with_reducible repeat (first | refine blk_drewN ?_ _ | refine blk_drew ?_ | refine blk_alloc ?_ _)); exact BK219.out) hb); have n6_ := Aside0.mk (below_step (by repeat (first | (with_reducible first | exact HB.out | apply below_alloc | apply pw_below_drewN | apply below_drew1 | refine below_set ?_ GE219.out) | exact HB.out)) hb); clear HO_4; clear HO_7; clear HO_17; clear HO_24; clear BK219; clear HB; have HO_4 := n0_; have HO_7 := n1_; have HO_17 := n2_; have HO_24 := n3_; have HO222 := n4_; have BK219 := n5_; have HB := n6_; clear n0_ n1_ n2_ n3_ n4_ n5_ n6_; clear hb ho19; obtain ⟨Ao20, co20, eo20⟩ := Kd.R_slice HO222.out; subst eo20))
                          go_loopg [35] k2 (fun kq v35 w' => ∃ (x35_3 : Int) (x220000_3 : ByteArray) (x220001_3 : ByteArray), v35 = .int .i64 x35_3 ∧ Aside0 (impl_ReadConstraint.l2 kq x4_1 x7_2 (rdOf ByteArray.empty t208 x26_2) t204 (t204.length : Int) x19_1 t208 (t208.length : Int) x26_2 y220 (y220.length : Int) x35_3 x220000_3 x220001_3 = some (r1, r2)) ∧ Aside0 (kq ≤ k2) ∧ Aside0 (Kd.S (Kd.slice 38 k38) 36 w' w.heap.size (fun k_ => some k_ ≠ (u7 : Value).ownBlock ∧ k_ ≠ gb219) u4 x4_1) ∧ Aside0 (Kd.R k38 38 w' w.heap.size (fun k_ => k_ ≠ gb219) u7 x7_2) ∧ Aside0 (Kd.R Kd.string 9 w' w.heap.size (fun k_ => some k_ ≠ ((.slice (some ad218) t208.length co11) : Value).ownBlock ∧ some k_ ≠ ((.slice Ao20 y220.length co20) : Value).ownBlock) (.slice (some ad207) t204.length co5) t204) ∧ Aside0 (Kd.R Kd.string 9 w' w.heap.size (fun k_ => some k_ ≠ ((.slice (some ad207) t204.length co5) : Value).ownBlock ∧ some k_ ≠ ((.slice Ao20 y220.length co20) : Value).ownBlock) (.slice (some ad218) t208.length co11) t208) ∧ Aside0 (Kd.R Kd.string 9 w' w.heap.size (fun k_ => some k_ ≠ ((.slice (some ad207) t204.length co5) : Value).ownBlock ∧ some k_ ≠ ((.slice (some ad218) t208.length co11) : Value).ownBlock) (.slice Ao20 y220.length co20) y220) ∧ Aside0 (w'.heap[gb219]? = some (.cells #[.string x220000_3, .string x220001_3] 38 (0, 0))) ∧ Aside0 (Below w.heap.size w w'))
                          case atStart => exact ⟨(0), ((⟨#[]⟩ : ByteArray)), ((⟨#[]⟩ : ByteArray)), (by first | rfl | (simp; done) | (simp [*]; done)), H', ⟨Nat.le_refl _⟩, ⟨by (with_reducible repeat (first | apply Kd.S_alloc | apply Kd.S_drewN | apply Kd.S_drew)); exact HO_4.out⟩, ⟨by (with_reducible repeat (first | apply Kd.R_alloc | apply Kd.R_drewN | apply Kd.R_drew)); exact Kd.R_mono HO_7.out (fun _ hk => hk.2)⟩, ⟨by (with_reducible repeat (first | apply Kd.R_alloc | apply Kd.R_drewN | apply Kd.R_drew)); exact HO_17.out⟩, ⟨by (with_reducible repeat (first | apply Kd.R_alloc | apply Kd.R_drewN | apply Kd.R_drew)); exact HO_24.out⟩, ⟨by (with_reducible repeat (first | apply Kd.R_alloc | apply Kd.R_drewN | apply Kd.R_drew)); exact Kd.R_mono HO222.out (fun _ hk => ⟨hk.1.2, hk.2⟩)⟩, ⟨by (with_reducible repeat (first | refine blk_drewN ?_ _ | refine blk_drew ?_ | refine blk_alloc ?_ _)); exact BK219.out⟩, ⟨by repeat (first | (with_reducible first | exact HB.out | apply below_alloc | apply pw_below_drewN | apply below_drew1 | refine below_set ?_ GE219.out) | exact HB.out)⟩⟩
                          case round =>
                            clear H'
                            try clear c1
                            try clear c2
                            try clear c2b0
                            try clear c2b1
                            try clear p2
                            try clear q2
                            try clear hx2
                            try clear c6
                            try clear c6b0
                            try clear p6
                            try clear c7
                            try clear c7b0
                            try clear c8
                            try clear c8b0
                            try clear c12
                            try clear c12b0
                            try clear c13
                            try clear c13b0
                            try clear c14
                            try clear c14b0
                            try clear c15
                            try clear c15b0
                            try clear c15b1
                            try clear c20
                            try clear p20
                            try clear q20
                            try clear hx20
                            try clear hcz17_0
                            try clear hcz17_1
                            try clear hfz17_0
                            try clear hfz17_1
                            try clear hx207_0
                            try clear hx218_0
                            try clear p2
                            try clear p207
                            try clear p218
                            try clear q2
                            try clear q207
                            try clear q218
                            obtain ⟨x35_3, x220000_3, x220001_3, rfl, HA, HK3, HO_4, HO_7, HO_17, HO_24, HO_33, BK219, HB⟩ := hrel
                            cases gk with
                            | zero => exact absurd HA.out (by simp [impl_ReadConstraint.l2])
                            | succ k3 =>
                              have H := HA.out
                              clear HA
                              simp only [impl_ReadConstraint.l2] at H
                              by_cases c21 : x35_3 < (y220.length : Int)
                              · rw [if_pos c21] at H
                                have c21b0 : decide (x35_3 < (y220.length : Int)) = true := decide_eq_true c21
                                clear c21
                                by_cases c22 : 0 ≤ x35_3
                                · rw [if_pos c22] at H
                                  have c22b0 : decide (0 ≤ x35_3) = true := decide_eq_true c22
                                  clear c22
                                  by_cases c23 : x35_3 < (y220.length : Int)
                                  · rw [if_pos c23] at H
                                    have c23b0 : decide (x35_3 < (y220.length : Int)) = true := decide_eq_true c23
                                    clear c23
                                    replace H := Option.bind_eq_some_iff.mp H
                                    obtain ⟨t224, A240, H⟩ := H
                                    replace H : (if t224 = true then (if 0 ≤ ((rdOf ByteArray.empty y220 x35_3).size : Int) then (if ((rdOf ByteArray.empty y220 x35_3).size : Int) ≤ ((rdOf ByteArray.empty t208 x26_2).size : Int) then (if (rdOf ByteArray.empty y220 x35_3).toList = ([] : List UInt8) then (some (([] : List (List (S38))), false)) else (if (rdOf ByteArray.empty y220 x35_3).toList = ([42] : List UInt8) then (if ((rdOf ByteArray.empty t208 x26_2).extract ((rdOf ByteArray.empty y220 x35_3).size) (rdOf ByteArray.empty t208 x26_2).size).toList = ([] : List UInt8) then (if x7_2.length < 4398046511104 then (impl_ReadConstraint.l1 k3 x4_1 (x7_2 ++ [(⟨rdOf ByteArray.empty y220 x35_3, (rdOf ByteArray.empty t208 x26_2).extract ((rdOf ByteArray.empty y220 x35_3).size) (rdOf ByteArray.empty t208 x26_2).size⟩ : S38)]) t204 (t204.length : Int) x19_1 t208 (t208.length : Int) (wrap64 (x26_2 + 1))) else (none)) else (some (([] : List (List (S38))), false))) else ((impl_VersionOk.f k3 ((rdOf ByteArray.empty t208 x26_2).extract ((rdOf ByteArray.empty y220 x35_3).size) (rdOf ByteArray.empty t208 x26_2).size)).bind fun t228 => (if t228 = true then (if x7_2.length < 4398046511104 then (impl_ReadConstraint.l1 k3 x4_1 (x7_2 ++ [(⟨rdOf ByteArray.empty y220 x35_3, (rdOf ByteArray.empty t208 x26_2).extract ((rdOf ByteArray.empty y220 x35_3).size) (rdOf ByteArray.empty t208 x26_2).size⟩ : S38)]) t204 (t204.length : Int) x19_1 t208 (t208.length : Int) (wrap64 (x26_2 + 1))) else (none)) else (some (([] : List (List (S38))), false)))))) else (none)) else (none)) else (impl_ReadConstraint.l2 k3 x4_1 x7_2 (rdOf ByteArray.empty t208 x26_2) t204 (t204.length : Int) x19_1 t208 (t208.length : Int) x26_2 y220 (y220.length : Int) (wrap64 (x35_3 + 1)) x220000_3 x220001_3)) = some (r1, r2) := H
                                    have A24 := Aside0.mk A240
                                    clear A240
                                    by_cases c25 : t224 = true
                                    · subst c25
                                      have H1 : (if 0 ≤ ((rdOf ByteArray.empty y220 x35_3).size : Int) then (if ((rdOf ByteArray.empty y220 x35_3).size : Int) ≤ ((rdOf ByteArray.empty t208 x26_2).size : Int) then (if (rdOf ByteArray.empty y220 x35_3).toList = ([] : List UInt8) then (some (([] : List (List (S38))), false)) else (if (rdOf ByteArray.empty y220 x35_3).toList = ([42] : List UInt8) then (if ((rdOf ByteArray.empty t208 x26_2).extract ((rdOf ByteArray.empty y220 x35_3).size) (rdOf ByteArray.empty t208 x26_2).size).toList = ([] : List UInt8) then (if x7_2.length < 4398046511104 then (impl_ReadConstraint.l1 k3 x4_1 (x7_2 ++ [(⟨rdOf ByteArray.empty y220 x35_3, (rdOf ByteArray.empty t208 x26_2).extract ((rdOf ByteArray.empty y220 x35_3).size) (rdOf ByteArray.empty t208 x26_2).size⟩ : S38)]) t204 (t204.length : Int) x19_1 t208 (t208.length : Int) (wrap64 (x26_2 + 1))) else (none)) else (some (([] : List (List (S38))), false))) else ((impl_VersionOk.f k3 ((rdOf ByteArray.empty t208 x26_2).extract ((rdOf ByteArray.empty y220 x35_3).size) (rdOf ByteArray.empty t208 x26_2).size)).bind fun t228 => (if t228 = true then (if x7_2.length < 4398046511104 then (impl_ReadConstraint.l1 k3 x4_1 (x7_2 ++ [(⟨rdOf ByteArray.empty y220 x35_3, (rdOf ByteArray.empty t208 x26_2).extract ((rdOf ByteArray.empty y220 x35_3).size) (rdOf ByteArray.empty t208 x26_2).size⟩ : S38)]) t204 (t204.length : Int) x19_1 t208 (t208.length : Int) (wrap64 (x26_2 + 1))) else (none)) else (some (([] : List (List (S38))), false)))))) else (none)) else (none)) = some (r1, r2) := by rw [if_pos rfl] at H; exact H
                                      clear H
                                      have H := H1
                                      clear H1
                                      by_cases c26 : 0 ≤ ((rdOf ByteArray.empty y220 x35_3).size : Int)
                                      · rw [if_pos c26] at H
                                        have c26b0 := eq_true c26
                                        have c26b1 : decide (0 ≤ ((rdOf ByteArray.empty y220 x35_3).size : Int)) = true := decide_eq_true c26
                                        clear c26
                                        by_cases c27 : ((rdOf ByteArray.empty y220 x35_3).size : Int) ≤ ((rdOf ByteArray.empty t208 x26_2).size : Int)
                                        · rw [if_pos c27] at H
                                          have c27b0 := eq_true c27
                                          have c27b1 : decide (((rdOf ByteArray.empty y220 x35_3).size : Int) ≤ ((rdOf ByteArray.empty t208 x26_2).size : Int)) = true := decide_eq_true c27
                                          clear c27
                                          by_cases c28 : (rdOf ByteArray.empty y220 x35_3).toList = ([] : List UInt8)
                                          · rw [if_pos c28] at H
                                            have c28b0 : ((rdOf ByteArray.empty y220 x35_3).toList == ([] : List UInt8)) = true := beq_iff_eq.mpr c28
                                            have c28b1 : ((rdOf ByteArray.empty y220 x35_3).toList != ([] : List UInt8)) = false := bne_eq_false_iff_eq.mpr c28
                                            clear c28
                                            simp only [Option.some.injEq, Prod.mk.injEq] at H
                                            obtain ⟨rfl, rfl⟩ := H
                                            have p223 : 0 ≤ (x35_3 : Int) := of_decide_eq_true (by first | (with_reducible assumption) | assumption)
                                            have q223 : x35_3 < (y220.length : Int) := of_decide_eq_true (by first | (with_reducible assumption) | assumption)
                                            obtain ⟨ad223, e223, hx223_0⟩ := Kd.at_string (Kd.R_reads' HO_33.out).2.2 x35_3 p223 q223
                                            cases e223
                                            replace p223 := eq_true p223
                                            replace q223 := eq_true q223
                                            go_wp2_with (first | ((with_reducible refine gate_callee (f := 21) rfl ?_); refine goesL_ (some 41) rfl rfl Tryd.func21 (by kernel_rfl) rfl #[.string (rdOf ByteArray.empty t208 x26_2), .string (rdOf ByteArray.empty y220 x35_3)] rfl (by (try simp only [List.map_toArray, List.map_cons, List.map_nil]); first | done | rfl | (simp only [List.length_drop, List.length_take]; rfl)) ?_; (with_reducible refine (strings_HasPrefix.calls (rdOf ByteArray.empty t208 x26_2) (rdOf ByteArray.empty y220 x35_3) true _ A24.out).mono ?_); rintro e w' ⟨rfl, ⟨nd, rfl⟩⟩; refine ⟨_, rfl, ?_⟩; (try (rw [drewN_self wr]; generalize hq_ : World.drewN wr _ = wr; have n0_ : Aside0 (Kd.R Kd.string 9 wr w.heap.size (fun k_ => some k_ ≠ (.slice (some ad218) t208.length co11 : Value).ownBlock ∧ some k_ ≠ (.slice (some ad223) y220.length co20 : Value).ownBlock) (.slice (some ad207) t204.length co5) t204) := ⟨by rw [← hq_]; exact (by (with_reducible repeat (first | apply Kd.R_alloc | apply Kd.R_drewN | apply Kd.R_drew)); exact HO_17.out)⟩; have n1_ : Aside0 (Kd.R Kd.string 9 wr w.heap.size (fun k_ => some k_ ≠ (.slice (some ad207) t204.length co5 : Value).ownBlock ∧ some k_ ≠ (.slice (some ad223) y220.length co20 : Value).ownBlock) (.slice (some ad218) t208.length co11) t208) := ⟨by rw [← hq_]; exact (by (with_reducible repeat (first | apply Kd.R_alloc | apply Kd.R_drewN | apply Kd.R_drew)); exact HO_24.out)⟩; have n2_ : Aside0 (Kd.R Kd.string 9 wr w.heap.size (fun k_ => some k_ ≠ (.slice (some ad207) t204.length co5 : Value).ownBlock ∧ some k_ ≠ (.slice (some ad218) t208.length co11 : Value).ownBlock) (.slice (some ad223) y220.length co20) y220) := ⟨by rw [← hq_]; exact (by (with_reducible repeat (first | apply Kd.R_alloc | apply Kd.R_drewN | apply Kd.R_drew)); exact HO_33.out)⟩; have n3_ : Aside0 (Kd.S (Kd.slice 38 k38) 36 wr w.heap.size (fun k_ => some k_ ≠ (u7 : Value).ownBlock ∧ k_ ≠ gb219) u4 x4_1) := ⟨by rw [← hq_]; exact (by (with_reducible repeat (first | apply Kd.S_alloc | apply Kd.S_drewN | apply Kd.S_drew)); exact HO_4.out)⟩; have n4_ : Aside0 (Kd.R k38 38 wr w.heap.size (fun k_ => k_ ≠ gb219) u7 x7_2) := ⟨by rw [← hq_]; exact (by (with_reducible repeat (first | apply Kd.R_alloc | apply Kd.R_drewN | apply Kd.R_drew)); exact HO_7.out)⟩; have n5_ : Aside0 (wr.heap[gb219]? = some (.cells #[.string x220000_3, .string x220001_3] 38 (0, 0))) := ⟨by rw [← hq_]; exact (by (with_reducible repeat (first | refine blk_drewN ?_ _ | refine blk_drew ?_ | refine blk_alloc ?_ _)); exact BK219.out)⟩; have n6_ : Aside0 (Below w.heap.size w wr) := ⟨by rw [← hq_]; exact (by repeat (first | (with_reducible first | exact HB.out | apply below_alloc | apply pw_below_drewN | apply below_drew1 | refine below_set ?_ GE219.out) | exact HB.out))⟩; clear HO_17 HO_24 HO_33 HO_4 HO_7 BK219 HB hq_; have HO_17 := n0_; have HO_24 := n1_; have HO_33 := n2_; have HO_4 := n3_; have HO_7 := n4_; have BK219 := n5_; have HB := n6_; clear n0_ n1_ n2_ n3_ n4_ n5_ n6_)); have hcz29_0 : wr.cell? ⟨gb219, 0, none⟩ = some (.string x220000_3) := (blk_cell BK219.out 0).trans rfl; have hcz29_1 : wr.cell? ⟨gb219, 1, none⟩ = some (.string x220001_3) := (blk_cell BK219.out 1).trans rfl; have hfz29_0 := blk_frozen BK219.out 0; have hfz29_1 := blk_frozen BK219.out 1))
                                            go_ret2
                                            exact ⟨_, by first | rfl | (simp [errW_none, errW_some] <;> rfl) | (simp [*, errW_none, errW_some] <;> rfl), by first | exact Kd.S_nil _ _ _ _ _ | exact Kd.N_nil _ _ _ _ _ | exact Kd.V_nil _ _ _ _ _ | exact Kd.Q_nil _ _ _ _ _ | exact Kd.R_nil _ _ _ _ _, by repeat (first | (with_reducible first | exact HB.out | apply below_alloc | apply pw_below_drewN | apply below_drew1 | refine below_set ?_ GE219.out) | exact HB.out)⟩
                                          · rw [if_neg c28] at H
                                            have c28b0 : ((rdOf ByteArray.empty y220 x35_3).toList == ([] : List UInt8)) = false := beq_eq_false_iff_ne.mpr c28
                                            have c28b1 : ((rdOf ByteArray.empty y220 x35_3).toList != ([] : List UInt8)) = true := bne_iff_ne.mpr c28
                                            by_cases c30 : (rdOf ByteArray.empty y220 x35_3).toList = ([42] : List UInt8)
                                            · rw [if_pos c30] at H
                                              have c30b0 : ((rdOf ByteArray.empty y220 x35_3).toList == ([42] : List UInt8)) = true := beq_iff_eq.mpr c30
                                              have c30b1 : ((rdOf ByteArray.empty y220 x35_3).toList != ([42] : List UInt8)) = false := bne_eq_false_iff_eq.mpr c30
                                              clear c30
                                              by_cases c31 : ((rdOf ByteArray.empty t208 x26_2).extract ((rdOf ByteArray.empty y220 x35_3).size) (rdOf ByteArray.empty t208 x26_2).size).toList = ([] : List UInt8)
                                              · rw [if_pos c31] at H
                                                have c31b0 : (((rdOf ByteArray.empty t208 x26_2).extract ((rdOf ByteArray.empty y220 x35_3).size) (rdOf ByteArray.empty t208 x26_2).size).toList == ([] : List UInt8)) = true := beq_iff_eq.mpr c31
                                                have c31b1 : (((rdOf ByteArray.empty t208 x26_2).extract ((rdOf ByteArray.empty y220 x35_3).size) (rdOf ByteArray.empty t208 x26_2).size).toList != ([] : List UInt8)) = false := bne_eq_false_iff_eq.mpr c31
                                                clear c31
                                                by_cases c32 : x7_2.length < 4398046511104
                                                · rw [if_pos c32] at H
                                                  have LMc32 := Aside0.mk c32
                                                  clear c32
                                                  obtain ⟨y225, hy225⟩ : ∃ y_ : List (S38), y_ = (x7_2 ++ [(⟨rdOf ByteArray.empty y220 x35_3, (rdOf ByteArray.empty t208 x26_2).extract ((rdOf ByteArray.empty y220 x35_3).size) (rdOf ByteArray.empty t208 x26_2).size⟩ : S38)]) := ⟨_, rfl⟩
                                                  replace H : (impl_ReadConstraint.l1 k3 x4_1 y225 t204 (t204.length : Int) x19_1 t208 (t208.length : Int) (wrap64 (x26_2 + 1))) = some (r1, r2) := by first | (rw [hy225]; with_reducible exact H) | (have H2_ := (Option.bind_some _ _).symm.trans H; rw [hy225]; with_reducible exact H2_) | (have H2_ := (Option.bind_some _ _).symm.trans H; with_reducible exact H2_) | with_reducible exact H | (rw [hy225]; exact H) | exact H
                                                  have Ny225 := Aside0.mk hy225
                                                  clear hy225
                                                  have H' := Aside0.mk H
                                                  clear H
                                                  have p223 : 0 ≤ (x35_3 : Int) := of_decide_eq_true (by first | (with_reducible assumption) | assumption)
                                                  have q223 : x35_3 < (y220.length : Int) := of_decide_eq_true (by first | (with_reducible assumption) | assumption)
                                                  obtain ⟨ad223, e223, hx223_0⟩ := Kd.at_string (Kd.R_reads' HO_33.out).2.2 x35_3 p223 q223
                                                  cases e223
                                                  replace p223 := eq_true p223
                                                  replace q223 := eq_true q223
                                                  go_wp2_with (first | ((with_reducible refine gate_callee (f := 21) rfl ?_); refine goesL_ (some 41) rfl rfl Tryd.func21 (by kernel_rfl) rfl #[.string (rdOf ByteArray.empty t208 x26_2), .string (rdOf ByteArray.empty y220 x35_3)] rfl (by (try simp only [List.map_toArray, List.map_cons, List.map_nil]); first | done | rfl | (simp only [List.length_drop, List.length_take]; rfl)) ?_; (with_reducible refine (strings_HasPrefix.calls (rdOf ByteArray.empty t208 x26_2) (rdOf ByteArray.empty y220 x35_3) true _ A24.out).mono ?_); rintro e w' ⟨rfl, ⟨nd, rfl⟩⟩; refine ⟨_, rfl, ?_⟩; (try (rw [drewN_self wr]; generalize hq_ : World.drewN wr _ = wr; have n0_ : Aside0 (Kd.R Kd.string 9 wr w.heap.size (fun k_ => some k_ ≠ (.slice (some ad218) t208.length co11 : Value).ownBlock ∧ some k_ ≠ (.slice (some ad223) y220.length co20 : Value).ownBlock) (.slice (some ad207) t204.length co5) t204) := ⟨by rw [← hq_]; exact (by (with_reducible repeat (first | apply Kd.R_alloc | apply Kd.R_drewN | apply Kd.R_drew)); exact HO_17.out)⟩; have n1_ : Aside0 (Kd.R Kd.string 9 wr w.heap.size (fun k_ => some k_ ≠ (.slice (some ad207) t204.length co5 : Value).ownBlock ∧ some k_ ≠ (.slice (some ad223) y220.length co20 : Value).ownBlock) (.slice (some ad218) t208.length co11) t208) := ⟨by rw [← hq_]; exact (by (with_reducible repeat (first | apply Kd.R_alloc | apply Kd.R_drewN | apply Kd.R_drew)); exact HO_24.out)⟩; have n2_ : Aside0 (Kd.R Kd.string 9 wr w.heap.size (fun k_ => some k_ ≠ (.slice (some ad207) t204.length co5 : Value).ownBlock ∧ some k_ ≠ (.slice (some ad218) t208.length co11 : Value).ownBlock) (.slice (some ad223) y220.length co20) y220) := ⟨by rw [← hq_]; exact (by (with_reducible repeat (first | apply Kd.R_alloc | apply Kd.R_drewN | apply Kd.R_drew)); exact HO_33.out)⟩; have n3_ : Aside0 (Kd.S (Kd.slice 38 k38) 36 wr w.heap.size (fun k_ => some k_ ≠ (u7 : Value).ownBlock ∧ k_ ≠ gb219) u4 x4_1) := ⟨by rw [← hq_]; exact (by (with_reducible repeat (first | apply Kd.S_alloc | apply Kd.S_drewN | apply Kd.S_drew)); exact HO_4.out)⟩; have n4_ : Aside0 (Kd.R k38 38 wr w.heap.size (fun k_ => k_ ≠ gb219) u7 x7_2) := ⟨by rw [← hq_]; exact (by (with_reducible repeat (first | apply Kd.R_alloc | apply Kd.R_drewN | apply Kd.R_drew)); exact HO_7.out)⟩; have n5_ : Aside0 (wr.heap[gb219]? = some (.cells #[.string x220000_3, .string x220001_3] 38 (0, 0))) := ⟨by rw [← hq_]; exact (by (with_reducible repeat (first | refine blk_drewN ?_ _ | refine blk_drew ?_ | refine blk_alloc ?_ _)); exact BK219.out)⟩; have n6_ : Aside0 (Below w.heap.size w wr) := ⟨by rw [← hq_]; exact (by repeat (first | (with_reducible first | exact HB.out | apply below_alloc | apply pw_below_drewN | apply below_drew1 | refine below_set ?_ GE219.out) | exact HB.out))⟩; clear HO_17 HO_24 HO_33 HO_4 HO_7 BK219 HB hq_; have HO_17 := n0_; have HO_24 := n1_; have HO_33 := n2_; have HO_4 := n3_; have HO_7 := n4_; have BK219 := n5_; have HB := n6_; clear n0_ n1_ n2_ n3_ n4_ n5_ n6_)); have hcz33_0 : wr.cell? ⟨gb219, 0, none⟩ = some (.string x220000_3) := (blk_cell BK219.out 0).trans rfl; have hcz33_1 : wr.cell? ⟨gb219, 1, none⟩ = some (.string x220001_3) := (blk_cell BK219.out 1).trans rfl; have hfz33_0 := blk_frozen BK219.out 0; have hfz33_1 := blk_frozen BK219.out 1) | ((with_reducible refine gate_builtin (b := .append) (xs := #[.tmp 73, .tmp 75]) rfl ?_); (try (refine gate_guard (by rfl) ?_; dsimp only)); at_builtin; refine Kd.R_append k38 (w0 := w) w.heap.size rfl (.tmp 73) (.tmp 75) 36 38 (.agg #[(.string ⟨#[]⟩), (.string ⟨#[]⟩)]) 32 rfl Tryd.underlying36 info38 rfl (by decide) (by omega) u7 x7_2 (⟨rdOf ByteArray.empty y220 x35_3, (rdOf ByteArray.empty t208 x26_2).extract ((rdOf ByteArray.empty y220 x35_3).size) (rdOf ByteArray.empty t208 x26_2).size⟩ : S38) [.string (rdOf ByteArray.empty y220 x35_3), .string ((rdOf ByteArray.empty t208 x26_2).extract ((rdOf ByteArray.empty y220 x35_3).size) (rdOf ByteArray.empty t208 x26_2).size)] (fun k_ => k_ ≠ gb219) (fun _ => False) rfl (by first | (go_simp; done) | (go_simp; rfl)) ?aP (fun _ hk => hk.elim) ?aF ?aO ?aB ?aS ?aL ?_; (case aP => exact k38_mkM _ _ _ (⟨rdOf ByteArray.empty y220 x35_3, (rdOf ByteArray.empty t208 x26_2).extract ((rdOf ByteArray.empty y220 x35_3).size) (rdOf ByteArray.empty t208 x26_2).size⟩ : S38)); (case aB => exact (by repeat (first | (with_reducible first | exact HB.out | apply below_alloc | apply pw_below_drewN | apply below_drew1 | refine below_set ?_ GE219.out) | exact HB.out))); (case aF => exact (fun k_ hk => Kd.freshB (g := gb219) (o := .cells #[.string (rdOf ByteArray.empty y220 x35_3), .string ((rdOf ByteArray.empty t208 x26_2).extract ((rdOf ByteArray.empty y220 x35_3).size) (rdOf ByteArray.empty t208 x26_2).size)] 38 (0, 0)) (by (with_reducible repeat (first | refine blk_drewN ?_ _ | refine blk_drew ?_ | refine blk_alloc ?_ _)); refine blk_put (cs := #[.string (rdOf ByteArray.empty y220 x35_3), .string x220001_3]) ?_ 1 _ rfl; (with_reducible repeat (first | refine blk_drewN ?_ _ | refine blk_drew ?_ | refine blk_alloc ?_ _)); refine blk_put (cs := #[.string x220000_3, .string x220001_3]) ?_ 0 _ rfl; (with_reducible repeat (first | refine blk_drewN ?_ _ | refine blk_drew ?_ | refine blk_alloc ?_ _)); exact BK219.out) k_ hk)); (case aO => exact (by (with_reducible repeat (first | apply Kd.R_alloc | apply Kd.R_drewN | apply Kd.R_drew)); exact Kd.R_mono (Kd.R_far (p := ⟨gb219, 1, none⟩) (Kd.R_far (p := ⟨gb219, 0, none⟩) (Kd.R_mono HO_7.out (fun k_ hk => (⟨hk, hk⟩ : _ ∧ k_ ≠ gb219))) (fun _ hk => hk.2) (.string (rdOf ByteArray.empty y220 x35_3))) (fun _ hk => hk.2) (.string ((rdOf ByteArray.empty t208 x26_2).extract ((rdOf ByteArray.empty y220 x35_3).size) (rdOf ByteArray.empty t208 x26_2).size))) (fun _ hk => hk.1))); (case aS => exact (below_size (by repeat (first | (with_reducible first | exact HB.out | apply below_alloc | apply pw_below_drewN | apply below_drew1 | refine below_set ?_ GE219.out) | exact HB.out)))); (case aL => have := LMc32.out; omega); intro v226 w34 ho hb hg hat; rw [← Ny225.out] at ho; have n0_ := Aside0.mk (Kd.S_after (ok := (fun k_ => k_ ≠ gb219)) (by (with_reducible repeat (first | apply Kd.S_alloc | apply Kd.S_drewN | apply Kd.S_drew)); exact Kd.S_mono (Kd.S_far (p := ⟨gb219, 1, none⟩) (Kd.S_far (p := ⟨gb219, 0, none⟩) (Kd.S_mono HO_4.out (fun k_ hk => (⟨hk, hk.2⟩ : _ ∧ k_ ≠ gb219))) (fun _ hk => hk.2) (.string (rdOf ByteArray.empty y220 x35_3))) (fun _ hk => hk.2) (.string ((rdOf ByteArray.empty t208 x26_2).extract ((rdOf ByteArray.empty y220 x35_3).size) (rdOf ByteArray.empty t208 x26_2).size))) (fun _ hk => ⟨hk.1.2, hk.1.1⟩)) hg hat); have n1_ := Aside0.mk (Kd.R_over' (by (with_reducible repeat (first | apply Kd.R_alloc | apply Kd.R_drewN | apply Kd.R_drew)); exact (Kd.R_mono (Kd.R_far (p := ⟨gb219, 1, none⟩) (Kd.R_far (p := ⟨gb219, 0, none⟩) (Kd.R_types HO_17.out BK219.out (by decide)) (fun _ hk => hk.2) (.string (rdOf ByteArray.empty y220 x35_3))) (fun _ hk => hk.2) (.string ((rdOf ByteArray.empty t208 x26_2).extract ((rdOf ByteArray.empty y220 x35_3).size) (rdOf ByteArray.empty t208 x26_2).size))) (fun _ h_ => h_.1))) (Kd.R_typed (by (with_reducible repeat (first | apply Kd.R_alloc | apply Kd.R_drewN | apply Kd.R_drew)); exact (Kd.R_mono (Kd.R_far (p := ⟨gb219, 1, none⟩) (Kd.R_far (p := ⟨gb219, 0, none⟩) (Kd.R_mono HO_7.out (fun k_ hk => (⟨hk, hk⟩ : _ ∧ k_ ≠ gb219))) (fun _ hk => hk.2) (.string (rdOf ByteArray.empty y220 x35_3))) (fun _ hk => hk.2) (.string ((rdOf ByteArray.empty t208 x26_2).extract ((rdOf ByteArray.empty y220 x35_3).size) (rdOf ByteArray.empty t208 x26_2).size))) (fun _ h_ => h_.1)))) (by decide) hg); have n2_ := Aside0.mk (Kd.R_over' (by (with_reducible repeat (first | apply Kd.R_alloc | apply Kd.R_drewN | apply Kd.R_drew)); exact (Kd.R_mono (Kd.R_far (p := ⟨gb219, 1, none⟩) (Kd.R_far (p := ⟨gb219, 0, none⟩) (Kd.R_types HO_24.out BK219.out (by decide)) (fun _ hk => hk.2) (.string (rdOf ByteArray.empty y220 x35_3))) (fun _ hk => hk.2) (.string ((rdOf ByteArray.empty t208 x26_2).extract ((rdOf ByteArray.empty y220 x35_3).size) (rdOf ByteArray.empty t208 x26_2).size))) (fun _ h_ => h_.1))) (Kd.R_typed (by (with_reducible repeat (first | apply Kd.R_alloc | apply Kd.R_drewN | apply Kd.R_drew)); exact (Kd.R_mono (Kd.R_far (p := ⟨gb219, 1, none⟩) (Kd.R_far (p := ⟨gb219, 0, none⟩) (Kd.R_mono HO_7.out (fun k_ hk => (⟨hk, hk⟩ : _ ∧ k_ ≠ gb219))) (fun _ hk => hk.2) (.string (rdOf ByteArray.empty y220 x35_3))) (fun _ hk => hk.2) (.string ((rdOf ByteArray.empty t208 x26_2).extract ((rdOf ByteArray.empty y220 x35_3).size) (rdOf ByteArray.empty t208 x26_2).size))) (fun _ h_ => h_.1)))) (by decide) hg); have n3_ := Aside0.mk (Kd.R_over' (by (with_reducible repeat (first | apply Kd.R_alloc | apply Kd.R_drewN | apply Kd.R_drew)); exact (Kd.R_mono (Kd.R_far (p := ⟨gb219, 1, none⟩) (Kd.R_far (p := ⟨gb219, 0, none⟩) (Kd.R_types HO_33.out BK219.out (by decide)) (fun _ hk => hk.2) (.string (rdOf ByteArray.empty y220 x35_3))) (fun _ hk => hk.2) (.string ((rdOf ByteArray.empty t208 x26_2).extract ((rdOf ByteArray.empty y220 x35_3).size) (rdOf ByteArray.empty t208 x26_2).size))) (fun _ h_ => h_.1))) (Kd.R_typed (by (with_reducible repeat (first | apply Kd.R_alloc | apply Kd.R_drewN | apply Kd.R_drew)); exact (Kd.R_mono (Kd.R_far (p := ⟨gb219, 1, none⟩) (Kd.R_far (p := ⟨gb219, 0, none⟩) (Kd.R_mono HO_7.out (fun k_ hk => (⟨hk, hk⟩ : _ ∧ k_ ≠ gb219))) (fun _ hk => hk.2) (.string (rdOf ByteArray.empty y220 x35_3))) (fun _ hk => hk.2) (.string ((rdOf ByteArray.empty t208 x26_2).extract ((rdOf ByteArray.empty y220 x35_3).size) (rdOf ByteArray.empty t208 x26_2).size))) (fun _ h_ => h_.1)))) (by decide) hg); have n4_ := Aside0.mk (blk_grown (g := gb219) (o := .cells #[.string (rdOf ByteArray.empty y220 x35_3), .string ((rdOf ByteArray.empty t208 x26_2).extract ((rdOf ByteArray.empty y220 x35_3).size) (rdOf ByteArray.empty t208 x26_2).size)] 38 (0, 0)) (by (with_reducible repeat (first | refine blk_drewN ?_ _ | refine blk_drew ?_ | refine blk_alloc ?_ _)); refine blk_put (cs := #[.string (rdOf ByteArray.empty y220 x35_3), .string x220001_3]) ?_ 1 _ rfl; (with_reducible repeat (first | refine blk_drewN ?_ _ | refine blk_drew ?_ | refine blk_alloc ?_ _)); refine blk_put (cs := #[.string x220000_3, .string x220001_3]) ?_ 0 _ rfl; (with_reducible repeat (first | refine blk_drewN ?_ _ | refine blk_drew ?_ | refine blk_alloc ?_ _)); exact BK219.out) hg (Kd.R_away HO_7.out (fun _ hk => hk))); have n5_ := Aside0.mk (hb); have n6_ := Aside0.mk (ho); clear HO_4; clear HO_17; clear HO_24; clear HO_33; clear BK219; clear HB; clear HO_7; have HO_4 := n0_; have HO_17 := n1_; have HO_24 := n2_; have HO_33 := n3_; have BK219 := n4_; have HB := n5_; have HO227 := n6_; clear n0_ n1_ n2_ n3_ n4_ n5_ n6_; clear ho hb hg hat))
                                                  go_roundg k3
                                                  case measure => have := HK1.out; have := HK2.out; have := HK3.out; omega
                                                  case rel => exact ⟨(y225), (wrap64 (x26_2 + 1)), (by first | rfl | (simp; done) | (simp [*]; done)), H', ⟨by have := HK1.out; have := HK2.out; have := HK3.out; omega⟩, ⟨by (with_reducible repeat (first | apply Kd.S_alloc | apply Kd.S_drewN | apply Kd.S_drew)); exact Kd.S_mono HO_4.out (fun _ hk => hk.2)⟩, ⟨by (with_reducible repeat (first | apply Kd.R_alloc | apply Kd.R_drewN | apply Kd.R_drew)); exact Kd.R_mono HO227.out (fun _ hk => trivial)⟩, ⟨by (with_reducible repeat (first | apply Kd.R_alloc | apply Kd.R_drewN | apply Kd.R_drew)); exact Kd.R_mono HO_17.out (fun _ hk => hk.1)⟩, ⟨by (with_reducible repeat (first | apply Kd.R_alloc | apply Kd.R_drewN | apply Kd.R_drew)); exact Kd.R_mono HO_24.out (fun _ hk => hk.1)⟩, ⟨by repeat (first | (with_reducible first | exact HB.out | apply below_alloc | apply pw_below_drewN | apply below_drew1 | refine below_set ?_ GE219.out) | exact HB.out)⟩⟩
                                                · rw [if_neg c32] at H
                                                  exact absurd H (by simp)
                                              · rw [if_neg c31] at H
                                                have c31b0 : (((rdOf ByteArray.empty t208 x26_2).extract ((rdOf ByteArray.empty y220 x35_3).size) (rdOf ByteArray.empty t208 x26_2).size).toList == ([] : List UInt8)) = false := beq_eq_false_iff_ne.mpr c31
                                                have c31b1 : (((rdOf ByteArray.empty t208 x26_2).extract ((rdOf ByteArray.empty y220 x35_3).size) (rdOf ByteArray.empty t208 x26_2).size).toList != ([] : List UInt8)) = true := bne_iff_ne.mpr c31
                                                simp only [Option.some.injEq, Prod.mk.injEq] at H
                                                obtain ⟨rfl, rfl⟩ := H
                                                have p223 : 0 ≤ (x35_3 : Int) := of_decide_eq_true (by first | (with_reducible assumption) | assumption)
                                                have q223 : x35_3 < (y220.length : Int) := of_decide_eq_true (by first | (with_reducible assumption) | assumption)
                                                obtain ⟨ad223, e223, hx223_0⟩ := Kd.at_string (Kd.R_reads' HO_33.out).2.2 x35_3 p223 q223
                                                cases e223
                                                replace p223 := eq_true p223
                                                replace q223 := eq_true q223
                                                go_wp2_with (first | ((with_reducible refine gate_callee (f := 21) rfl ?_); refine goesL_ (some 41) rfl rfl Tryd.func21 (by kernel_rfl) rfl #[.string (rdOf ByteArray.empty t208 x26_2), .string (rdOf ByteArray.empty y220 x35_3)] rfl (by (try simp only [List.map_toArray, List.map_cons, List.map_nil]); first | done | rfl | (simp only [List.length_drop, List.length_take]; rfl)) ?_; (with_reducible refine (strings_HasPrefix.calls (rdOf ByteArray.empty t208 x26_2) (rdOf ByteArray.empty y220 x35_3) true _ A24.out).mono ?_); rintro e w' ⟨rfl, ⟨nd, rfl⟩⟩; refine ⟨_, rfl, ?_⟩; (try (rw [drewN_self wr]; generalize hq_ : World.drewN wr _ = wr; have n0_ : Aside0 (Kd.R Kd.string 9 wr w.heap.size (fun k_ => some k_ ≠ (.slice (some ad218) t208.length co11 : Value).ownBlock ∧ some k_ ≠ (.slice (some ad223) y220.length co20 : Value).ownBlock) (.slice (some ad207) t204.length co5) t204) := ⟨by rw [← hq_]; exact (by (with_reducible repeat (first | apply Kd.R_alloc | apply Kd.R_drewN | apply Kd.R_drew)); exact HO_17.out)⟩; have n1_ : Aside0 (Kd.R Kd.string 9 wr w.heap.size (fun k_ => some k_ ≠ (.slice (some ad207) t204.length co5 : Value).ownBlock ∧ some k_ ≠ (.slice (some ad223) y220.length co20 : Value).ownBlock) (.slice (some ad218) t208.length co11) t208) := ⟨by rw [← hq_]; exact (by (with_reducible repeat (first | apply Kd.R_alloc | apply Kd.R_drewN | apply Kd.R_drew)); exact HO_24.out)⟩; have n2_ : Aside0 (Kd.R Kd.string 9 wr w.heap.size (fun k_ => some k_ ≠ (.slice (some ad207) t204.length co5 : Value).ownBlock ∧ some k_ ≠ (.slice (some ad218) t208.length co11 : Value).ownBlock) (.slice (some ad223) y220.length co20) y220) := ⟨by rw [← hq_]; exact (by (with_reducible repeat (first | apply Kd.R_alloc | apply Kd.R_drewN | apply Kd.R_drew)); exact HO_33.out)⟩; have n3_ : Aside0 (Kd.S (Kd.slice 38 k38) 36 wr w.heap.size (fun k_ => some k_ ≠ (u7 : Value).ownBlock ∧ k_ ≠ gb219) u4 x4_1) := ⟨by rw [← hq_]; exact (by (with_reducible repeat (first | apply Kd.S_alloc | apply Kd.S_drewN | apply Kd.S_drew)); exact HO_4.out)⟩; have n4_ : Aside0 (Kd.R k38 38 wr w.heap.size (fun k_ => k_ ≠ gb219) u7 x7_2) := ⟨by rw [← hq_]; exact (by (with_reducible repeat (first | apply Kd.R_alloc | apply Kd.R_drewN | apply Kd.R_drew)); exact HO_7.out)⟩; have n5_ : Aside0 (wr.heap[gb219]? = some (.cells #[.string x220000_3, .string x220001_3] 38 (0, 0))) := ⟨by rw [← hq_]; exact (by (with_reducible repeat (first | refine blk_drewN ?_ _ | refine blk_drew ?_ | refine blk_alloc ?_ _)); exact BK219.out)⟩; have n6_ : Aside0 (Below w.heap.size w wr) := ⟨by rw [← hq_]; exact (by repeat (first | (with_reducible first | exact HB.out | apply below_alloc | apply pw_below_drewN | apply below_drew1 | refine below_set ?_ GE219.out) | exact HB.out))⟩; clear HO_17 HO_24 HO_33 HO_4 HO_7 BK219 HB hq_; have HO_17 := n0_; have HO_24 := n1_; have HO_33 := n2_; have HO_4 := n3_; have HO_7 := n4_; have BK219 := n5_; have HB := n6_; clear n0_ n1_ n2_ n3_ n4_ n5_ n6_)); have hcz35_0 : wr.cell? ⟨gb219, 0, none⟩ = some (.string x220000_3) := (blk_cell BK219.out 0).trans rfl; have hcz35_1 : wr.cell? ⟨gb219, 1, none⟩ = some (.string x220001_3) := (blk_cell BK219.out 1).trans rfl; have hfz35_0 := blk_frozen BK219.out 0; have hfz35_1 := blk_frozen BK219.out 1))
                                                go_ret2
                                                exact ⟨_, by first | rfl | (simp [errW_none, errW_some] <;> rfl) | (simp [*, errW_none, errW_some] <;> rfl), by first | exact Kd.S_nil _ _ _ _ _ | exact Kd.N_nil _ _ _ _ _ | exact Kd.V_nil _ _ _ _ _ | exact Kd.Q_nil _ _ _ _ _ | exact Kd.R_nil _ _ _ _ _, by repeat (first | (with_reducible first | exact HB.out | apply below_alloc | apply pw_below_drewN | apply below_drew1 | refine below_set ?_ GE219.out) | exact HB.out)⟩
                                            · rw [if_neg c30] at H
                                              have c30b0 : ((rdOf ByteArray.empty y220 x35_3).toList == ([42] : List UInt8)) = false := beq_eq_false_iff_ne.mpr c30
                                              have c30b1 : ((rdOf ByteArray.empty y220 x35_3).toList != ([42] : List UInt8)) = true := bne_iff_ne.mpr c30
                                              replace H := Option.bind_eq_some_iff.mp H
                                              obtain ⟨t228, A360, H⟩ := H
                                              replace H : (if t228 = true then (if x7_2.length < 4398046511104 then (impl_ReadConstraint.l1 k3 x4_1 (x7_2 ++ [(⟨rdOf ByteArray.empty y220 x35_3, (rdOf ByteArray.empty t208 x26_2).extract ((rdOf ByteArray.empty y220 x35_3).size) (rdOf ByteArray.empty t208 x26_2).size⟩ : S38)]) t204 (t204.length : Int) x19_1 t208 (t208.length : Int) (wrap64 (x26_2 + 1))) else (none)) else (some (([] : List (List (S38))), false))) = some (r1, r2) := H
                                              have A36 := Aside0.mk A360
                                              clear A360
                                              by_cases c37 : t228 = true
                                              · subst c37
                                                have H1 : (if x7_2.length < 4398046511104 then (impl_ReadConstraint.l1 k3 x4_1 (x7_2 ++ [(⟨rdOf ByteArray.empty y220 x35_3, (rdOf ByteArray.empty t208 x26_2).extract ((rdOf ByteArray.empty y220 x35_3).size) (rdOf ByteArray.empty t208 x26_2).size⟩ : S38)]) t204 (t204.length : Int) x19_1 t208 (t208.length : Int) (wrap64 (x26_2 + 1))) else (none)) = some (r1, r2) := by rw [if_pos rfl] at H; exact H
                                                clear H
                                                have H := H1
                                                clear H1
                                                by_cases c38 : x7_2.length < 4398046511104
                                                · rw [if_pos c38] at H
                                                  have LMc38 := Aside0.mk c38
                                                  clear c38
                                                  obtain ⟨y229, hy229⟩ : ∃ y_ : List (S38), y_ = (x7_2 ++ [(⟨rdOf ByteArray.empty y220 x35_3, (rdOf ByteArray.empty t208 x26_2).extract ((rdOf ByteArray.empty y220 x35_3).size) (rdOf ByteArray.empty t208 x26_2).size⟩ : S38)]) := ⟨_, rfl⟩
                                                  replace H : (impl_ReadConstraint.l1 k3 x4_1 y229 t204 (t204.length : Int) x19_1 t208 (t208.length : Int) (wrap64 (x26_2 + 1))) = some (r1, r2) := by first | (rw [hy229]; with_reducible exact H) | (have H2_ := (Option.bind_some _ _).symm.trans H; rw [hy229]; with_reducible exact H2_) | (have H2_ := (Option.bind_some _ _).symm.trans H; with_reducible exact H2_) | with_reducible exact H | (rw [hy229]; exact H) | exact H
                                                  have Ny229 := Aside0.mk hy229
                                                  clear hy229
                                                  have H' := Aside0.mk H
                                                  clear H
                                                  have p223 : 0 ≤ (x35_3 : Int) := of_decide_eq_true (by first | (with_reducible assumption) | assumption)
                                                  have q223 : x35_3 < (y220.length : Int) := of_decide_eq_true (by first | (with_reducible assumption) | assumption)
                                                  obtain ⟨ad223, e223, hx223_0⟩ := Kd.at_string (Kd.R_reads' HO_33.out).2.2 x35_3 p223 q223
                                                  cases e223
                                                  replace p223 := eq_true p223
                                                  replace q223 := eq_true q223
                                                  go_wp2_with (first | ((with_reducible refine gate_callee (f := 21) rfl ?_); refine goesL_ (some 41) rfl rfl Tryd.func21 (by kernel_rfl) rfl #[.string (rdOf ByteArray.empty t208 x26_2), .string (rdOf ByteArray.empty y220 x35_3)] rfl (by (try simp only [List.map_toArray, List.map_cons, List.map_nil]); first | done | rfl | (simp only [List.length_drop, List.length_take]; rfl)) ?_; (with_reducible refine (strings_HasPrefix.calls (rdOf ByteArray.empty t208 x26_2) (rdOf ByteArray.empty y220 x35_3) true _ A24.out).mono ?_); rintro e w' ⟨rfl, ⟨nd, rfl⟩⟩; refine ⟨_, rfl, ?_⟩; (try (rw [drewN_self wr]; generalize hq_ : World.drewN wr _ = wr; have n0_ : Aside0 (Kd.R Kd.string 9 wr w.heap.size (fun k_ => some k_ ≠ (.slice (some ad218) t208.length co11 : Value).ownBlock ∧ some k_ ≠ (.slice (some ad223) y220.length co20 : Value).ownBlock) (.slice (some ad207) t204.length co5) t204) := ⟨by rw [← hq_]; exact (by (with_reducible repeat (first | apply Kd.R_alloc | apply Kd.R_drewN | apply Kd.R_drew)); exact HO_17.out)⟩; have n1_ : Aside0 (Kd.R Kd.string 9 wr w.heap.size (fun k_ => some k_ ≠ (.slice (some ad207) t204.length co5 : Value).ownBlock ∧ some k_ ≠ (.slice (some ad223) y220.length co20 : Value).ownBlock) (.slice (some ad218) t208.length co11) t208) := ⟨by rw [← hq_]; exact (by (with_reducible repeat (first | apply Kd.R_alloc | apply Kd.R_drewN | apply Kd.R_drew)); exact HO_24.out)⟩; have n2_ : Aside0 (Kd.R Kd.string 9 wr w.heap.size (fun k_ => some k_ ≠ (.slice (some ad207) t204.length co5 : Value).ownBlock ∧ some k_ ≠ (.slice (some ad218) t208.length co11 : Value).ownBlock) (.slice (some ad223) y220.length co20) y220) := ⟨by rw [← hq_]; exact (by (with_reducible repeat (first | apply Kd.R_alloc | apply Kd.R_drewN | apply Kd.R_drew)); exact HO_33.out)⟩; have n3_ : Aside0 (Kd.S (Kd.slice 38 k38) 36 wr w.heap.size (fun k_ => some k_ ≠ (u7 : Value).ownBlock ∧ k_ ≠ gb219) u4 x4_1) := ⟨by rw [← hq_]; exact (by (with_reducible repeat (first | apply Kd.S_alloc | apply Kd.S_drewN | apply Kd.S_drew)); exact HO_4.out)⟩; have n4_ : Aside0 (Kd.R k38 38 wr w.heap.size (fun k_ => k_ ≠ gb219) u7 x7_2) := ⟨by rw [← hq_]; exact (by (with_reducible repeat (first | apply Kd.R_alloc | apply Kd.R_drewN | apply Kd.R_drew)); exact HO_7.out)⟩; have n5_ : Aside0 (wr.heap[gb219]? = some (.cells #[.string x220000_3, .string x220001_3] 38 (0, 0))) := ⟨by rw [← hq_]; exact (by (with_reducible repeat (first | refine blk_drewN ?_ _ | refine blk_drew ?_ | refine blk_alloc ?_ _)); exact BK219.out)⟩; have n6_ : Aside0 (Below w.heap.size w wr) := ⟨by rw [← hq_]; exact (by repeat (first | (with_reducible first | exact HB.out | apply below_alloc | apply pw_below_drewN | apply below_drew1 | refine below_set ?_ GE219.out) | exact HB.out))⟩; clear HO_17 HO_24 HO_33 HO_4 HO_7 BK219 HB hq_; have HO_17 := n0_; have HO_24 := n1_; have HO_33 := n2_; have HO_4 := n3_; have HO_7 := n4_; have BK219 := n5_; have HB := n6_; clear n0_ n1_ n2_ n3_ n4_ n5_ n6_)); have hcz39_0 : wr.cell? ⟨gb219, 0, none⟩ = some (.string x220000_3) := (blk_cell BK219.out 0).trans rfl; have hcz39_1 : wr.cell? ⟨gb219, 1, none⟩ = some (.string x220001_3) := (blk_cell BK219.out 1).trans rfl; have hfz39_0 := blk_frozen BK219.out 0; have hfz39_1 := blk_frozen BK219.out 1) | (go_at_call 22; (with_reducible refine (impl_VersionOk.calls k3 ((rdOf ByteArray.empty t208 x26_2).extract ((rdOf ByteArray.empty y220 x35_3).size) (rdOf ByteArray.empty t208 x26_2).size) true _ A36.out).mono ?_); rintro e w40 ⟨rfl, hb⟩; have n0_ := Aside0.mk (Kd.S_below (by (with_reducible repeat (first | apply Kd.S_alloc | apply Kd.S_drewN | apply Kd.S_drew)); exact (Kd.S_mono (Kd.S_far (p := ⟨gb219, 1, none⟩) (Kd.S_far (p := ⟨gb219, 0, none⟩) (Kd.S_mono HO_4.out (fun k_ hk => (⟨hk, hk.2⟩ : _ ∧ k_ ≠ gb219))) (fun _ hk => hk.2) (.string (rdOf ByteArray.empty y220 x35_3))) (fun _ hk => hk.2) (.string ((rdOf ByteArray.empty t208 x26_2).extract ((rdOf ByteArray.empty y220 x35_3).size) (rdOf ByteArray.empty t208 x26_2).size))) (fun _ h_ => h_.1))) hb); have n1_ := Aside0.mk (Kd.R_below (by (with_reducible repeat (first | apply Kd.R_alloc | apply Kd.R_drewN | apply Kd.R_drew)); exact (Kd.R_mono (Kd.R_far (p := ⟨gb219, 1, none⟩) (Kd.R_far (p := ⟨gb219, 0, none⟩) (Kd.R_mono HO_7.out (fun k_ hk => (⟨hk, hk⟩ : _ ∧ k_ ≠ gb219))) (fun _ hk => hk.2) (.string (rdOf ByteArray.empty y220 x35_3))) (fun _ hk => hk.2) (.string ((rdOf ByteArray.empty t208 x26_2).extract ((rdOf ByteArray.empty y220 x35_3).size) (rdOf ByteArray.empty t208 x26_2).size))) (fun _ h_ => h_.1))) hb); have n2_ := Aside0.mk (Kd.R_below (by (with_reducible repeat (first | apply Kd.R_alloc | apply Kd.R_drewN | apply Kd.R_drew)); exact (Kd.R_mono (Kd.R_far (p := ⟨gb219, 1, none⟩) (Kd.R_far (p := ⟨gb219, 0, none⟩) (Kd.R_types HO_17.out BK219.out (by decide)) (fun _ hk => hk.2) (.string (rdOf ByteArray.empty y220 x35_3))) (fun _ hk => hk.2) (.string ((rdOf ByteArray.empty t208 x26_2).extract ((rdOf ByteArray.empty y220 x35_3).size) (rdOf ByteArray.empty t208 x26_2).size))) (fun _ h_ => h_.1))) hb); have n3_ := Aside0.mk (Kd.R_below (by (with_reducible repeat (first | apply Kd.R_alloc | apply Kd.R_drewN | apply Kd.R_drew)); exact (Kd.R_mono (Kd.R_far (p := ⟨gb219, 1, none⟩) (Kd.R_far (p := ⟨gb219, 0, none⟩) (Kd.R_types HO_24.out BK219.out (by decide)) (fun _ hk => hk.2) (.string (rdOf ByteArray.empty y220 x35_3))) (fun _ hk => hk.2) (.string ((rdOf ByteArray.empty t208 x26_2).extract ((rdOf ByteArray.empty y220 x35_3).size) (rdOf ByteArray.empty t208 x26_2).size))) (fun _ h_ => h_.1))) hb); have n4_ := Aside0.mk (Kd.R_below (by (with_reducible repeat (first | apply Kd.R_alloc | apply Kd.R_drewN | apply Kd.R_drew)); exact (Kd.R_mono (Kd.R_far (p := ⟨gb219, 1, none⟩) (Kd.R_far (p := ⟨gb219, 0, none⟩) (Kd.R_types HO_33.out BK219.out (by decide)) (fun _ hk => hk.2) (.string (rdOf ByteArray.empty y220 x35_3))) (fun _ hk => hk.2) (.string ((rdOf ByteArray.empty t208 x26_2).extract ((rdOf ByteArray.empty y220 x35_3).size) (rdOf ByteArray.empty t208 x26_2).size))) (fun _ h_ => h_.1))) hb); have n5_ := Aside0.mk (blk_below (g := gb219) (o := .cells #[.string (rdOf ByteArray.empty y220 x35_3), .string ((rdOf ByteArray.empty t208 x26_2).extract ((rdOf ByteArray.empty y220 x35_3).size) (rdOf ByteArray.empty t208 x26_2).size)] 38 (0, 0)) (by (with_reducible repeat (first | refine blk_drewN ?_ _ | refine blk_drew ?_ | refine blk_alloc ?_ _)); refine blk_put (cs := #[.string (rdOf ByteArray.empty y220 x35_3), .string x220001_3]) ?_ 1 _ rfl; (with_reducible repeat (first | refine blk_drewN ?_ _ | refine blk_drew ?_ | refine blk_alloc ?_ _)); refine blk_put (cs := #[.string x220000_3, .string x220001_3]) ?_ 0 _ rfl; (with_reducible repeat (first | refine blk_drewN ?_ _ | refine blk_drew ?_ | refine blk_alloc ?_ _)); exact BK219.out) hb); have n6_ := Aside0.mk (below_step (by repeat (first | (with_reducible first | exact HB.out | apply below_alloc | apply pw_below_drewN | apply below_drew1 | refine below_set ?_ GE219.out) | exact HB.out)) hb); clear HO_4; clear HO_7; clear HO_17; clear HO_24; clear HO_33; clear BK219; clear HB; have HO_4 := n0_; have HO_7 := n1_; have HO_17 := n2_; have HO_24 := n3_; have HO_33 := n4_; have BK219 := n5_; have HB := n6_; clear n0_ n1_ n2_ n3_ n4_ n5_ n6_; (try clear hb); (try clear hb2); (try clear hk); (try clear hi); have hcz41_0 : w40.cell? ⟨gb219, 0, none⟩ = some (.string (rdOf ByteArray.empty y220 x35_3)) := (blk_cell BK219.out 0).trans rfl; have hcz41_1 : w40.cell? ⟨gb219, 1, none⟩ = some (.string ((rdOf ByteArray.empty t208 x26_2).extract ((rdOf ByteArray.empty y220 x35_3).size) (rdOf ByteArray.empty t208 x26_2).size)) := (blk_cell BK219.out 1).trans rfl; have hfz41_0 := blk_frozen BK219.out 0; have hfz41_1 := blk_frozen BK219.out 1) | ((with_reducible refine gate_builtin (b := .append) (xs := #[.tmp 73, .tmp 75]) rfl ?_); (try (refine gate_guard (by rfl) ?_; dsimp only)); at_builtin; refine Kd.R_append k38 (w0 := w) w.heap.size rfl (.tmp 73) (.tmp 75) 36 38 (.agg #[(.string ⟨#[]⟩), (.string ⟨#[]⟩)]) 32 rfl Tryd.underlying36 info38 rfl (by decide) (by omega) u7 x7_2 (⟨rdOf ByteArray.empty y220 x35_3, (rdOf ByteArray.empty t208 x26_2).extract ((rdOf ByteArray.empty y220 x35_3).size) (rdOf ByteArray.empty t208 x26_2).size⟩ : S38) [.string (rdOf ByteArray.empty y220 x35_3), .string ((rdOf ByteArray.empty t208 x26_2).extract ((rdOf ByteArray.empty y220 x35_3).size) (rdOf ByteArray.empty t208 x26_2).size)] (fun k_ => k_ ≠ gb219) (fun _ => False) rfl rfl ?aP (fun _ hk => hk.elim) ?aF ?aO ?aB ?aS ?aL ?_; (case aP => exact k38_mkM _ _ _ (⟨rdOf ByteArray.empty y220 x35_3, (rdOf ByteArray.empty t208 x26_2).extract ((rdOf ByteArray.empty y220 x35_3).size) (rdOf ByteArray.empty t208 x26_2).size⟩ : S38)); (case aB => exact (by repeat (first | (with_reducible first | exact HB.out | apply below_alloc | apply pw_below_drewN | apply below_drew1 | refine below_set ?_ GE219.out) | exact HB.out))); (case aF => exact (fun k_ hk => Kd.freshB (g := gb219) (o := .cells #[.string (rdOf ByteArray.empty y220 x35_3), .string ((rdOf ByteArray.empty t208 x26_2).extract ((rdOf ByteArray.empty y220 x35_3).size) (rdOf ByteArray.empty t208 x26_2).size)] 38 (0, 0)) (by (with_reducible repeat (first | refine blk_drewN ?_ _ | refine blk_drew ?_ | refine blk_alloc ?_ _)); exact BK219.out) k_ hk)); (case aO => exact (by (with_reducible repeat (first | apply Kd.R_alloc | apply Kd.R_drewN | apply Kd.R_drew)); exact HO_7.out)); (case aS => exact (below_size (by repeat (first | (with_reducible first | exact HB.out | apply below_alloc | apply pw_below_drewN | apply below_drew1 | refine below_set ?_ GE219.out) | exact HB.out)))); (case aL => have := LMc38.out; omega); intro v230 w42 ho hb hg hat; rw [← Ny229.out] at ho; have n0_ := Aside0.mk (Kd.S_after (ok := (fun k_ => k_ ≠ gb219)) (by (with_reducible repeat (first | apply Kd.S_alloc | apply Kd.S_drewN | apply Kd.S_drew)); exact Kd.S_mono HO_4.out (fun _ hk => ⟨hk.2, hk.1⟩)) hg hat); have n1_ := Aside0.mk (Kd.R_over' (by (with_reducible repeat (first | apply Kd.R_alloc | apply Kd.R_drewN | apply Kd.R_drew)); exact HO_17.out) (Kd.R_typed (by (with_reducible repeat (first | apply Kd.R_alloc | apply Kd.R_drewN | apply Kd.R_drew)); exact HO_7.out)) (by decide) hg); have n2_ := Aside0.mk (Kd.R_over' (by (with_reducible repeat (first | apply Kd.R_alloc | apply Kd.R_drewN | apply Kd.R_drew)); exact HO_24.out) (Kd.R_typed (by (with_reducible repeat (first | apply Kd.R_alloc | apply Kd.R_drewN | apply Kd.R_drew)); exact HO_7.out)) (by decide) hg); have n3_ := Aside0.mk (Kd.R_over' (by (with_reducible repeat (first | apply Kd.R_alloc | apply Kd.R_drewN | apply Kd.R_drew)); exact HO_33.out) (Kd.R_typed (by (with_reducible repeat (first | apply Kd.R_alloc | apply Kd.R_drewN | apply Kd.R_drew)); exact HO_7.out)) (by decide) hg); have n4_ := Aside0.mk (blk_grown (g := gb219) (o := .cells #[.string (rdOf ByteArray.empty y220 x35_3), .string ((rdOf ByteArray.empty t208 x26_2).extract ((rdOf ByteArray.empty y220 x35_3).size) (rdOf ByteArray.empty t208 x26_2).size)] 38 (0, 0)) (by (with_reducible repeat (first | refine blk_drewN ?_ _ | refine blk_drew ?_ | refine blk_alloc ?_ _)); exact BK219.out) hg (Kd.R_away HO_7.out (fun _ hk => hk))); have n5_ := Aside0.mk (hb); have n6_ := Aside0.mk (ho); clear HO_4; clear HO_17; clear HO_24; clear HO_33; clear BK219; clear HB; clear HO_7; have HO_4 := n0_; have HO_17 := n1_; have HO_24 := n2_; have HO_33 := n3_; have BK219 := n4_; have HB := n5_; have HO231 := n6_; clear n0_ n1_ n2_ n3_ n4_ n5_ n6_; clear ho hb hg hat))
                                                  go_roundg k3
                                                  case measure => have := HK1.out; have := HK2.out; have := HK3.out; omega
                                                  case rel => exact ⟨(y229), (wrap64 (x26_2 + 1)), (by first | rfl | (simp; done) | (simp [*]; done)), H', ⟨by have := HK1.out; have := HK2.out; have := HK3.out; omega⟩, ⟨by (with_reducible repeat (first | apply Kd.S_alloc | apply Kd.S_drewN | apply Kd.S_drew)); exact Kd.S_mono HO_4.out (fun _ hk => hk.2)⟩, ⟨by (with_reducible repeat (first | apply Kd.R_alloc | apply Kd.R_drewN | apply Kd.R_drew)); exact Kd.R_mono HO231.out (fun _ hk => trivial)⟩, ⟨by (with_reducible repeat (first | apply Kd.R_alloc | apply Kd.R_drewN | apply Kd.R_drew)); exact Kd.R_mono HO_17.out (fun _ hk => hk.1)⟩, ⟨by (with_reducible repeat (first | apply Kd.R_alloc | apply Kd.R_drewN | apply Kd.R_drew)); exact Kd.R_mono HO_24.out (fun _ hk => hk.1)⟩, ⟨by repeat (first | (with_reducible first | exact HB.out | apply below_alloc | apply pw_below_drewN | apply below_drew1 | refine below_set ?_ GE219.out) | exact HB.out)⟩⟩
                                                · rw [if_neg c38] at H
                                                  exact absurd H (by simp)
                                              · replace c37 := Bool.eq_false_iff.mpr c37
                                                subst c37
                                                have H1 : (some (([] : List (List (S38))), false)) = some (r1, r2) := by rw [if_neg (show ¬ (false = true) by decide)] at H; exact H
                                                clear H
                                                have H := H1
                                                clear H1
                                                simp only [Option.some.injEq, Prod.mk.injEq] at H
                                                obtain ⟨rfl, rfl⟩ := H
                                                have p223 : 0 ≤ (x35_3 : Int) := of_decide_eq_true (by first | (with_reducible assumption) | assumption)
                                                have q223 : x35_3 < (y220.length : Int) := of_decide_eq_true (by first | (with_reducible assumption) | assumption)
                                                obtain ⟨ad223, e223, hx223_0⟩ := Kd.at_string (Kd.R_reads' HO_33.out).2.2 x35_3 p223 q223
                                                cases e223
                                                replace p223 := eq_true p223
                                                replace q223 := eq_true q223
                                                go_wp2_with (first | ((with_reducible refine gate_callee (f := 21) rfl ?_); refine goesL_ (some 41) rfl rfl Tryd.func21 (by kernel_rfl) rfl #[.string (rdOf ByteArray.empty t208 x26_2), .string (rdOf ByteArray.empty y220 x35_3)] rfl (by (try simp only [List.map_toArray, List.map_cons, List.map_nil]); first | done | rfl | (simp only [List.length_drop, List.length_take]; rfl)) ?_; (with_reducible refine (strings_HasPrefix.calls (rdOf ByteArray.empty t208 x26_2) (rdOf ByteArray.empty y220 x35_3) true _ A24.out).mono ?_); rintro e w' ⟨rfl, ⟨nd, rfl⟩⟩; refine ⟨_, rfl, ?_⟩; (try (rw [drewN_self wr]; generalize hq_ : World.drewN wr _ = wr; have n0_ : Aside0 (Kd.R Kd.string 9 wr w.heap.size (fun k_ => some k_ ≠ (.slice (some ad218) t208.length co11 : Value).ownBlock ∧ some k_ ≠ (.slice (some ad223) y220.length co20 : Value).ownBlock) (.slice (some ad207) t204.length co5) t204) := ⟨by rw [← hq_]; exact (by (with_reducible repeat (first | apply Kd.R_alloc | apply Kd.R_drewN | apply Kd.R_drew)); exact HO_17.out)⟩; have n1_ : Aside0 (Kd.R Kd.string 9 wr w.heap.size (fun k_ => some k_ ≠ (.slice (some ad207) t204.length co5 : Value).ownBlock ∧ some k_ ≠ (.slice (some ad223) y220.length co20 : Value).ownBlock) (.slice (some ad218) t208.length co11) t208) := ⟨by rw [← hq_]; exact (by (with_reducible repeat (first | apply Kd.R_alloc | apply Kd.R_drewN | apply Kd.R_drew)); exact HO_24.out)⟩; have n2_ : Aside0 (Kd.R Kd.string 9 wr w.heap.size (fun k_ => some k_ ≠ (.slice (some ad207) t204.length co5 : Value).ownBlock ∧ some k_ ≠ (.slice (some ad218) t208.length co11 : Value).ownBlock) (.slice (some ad223) y220.length co20) y220) := ⟨by rw [← hq_]; exact (by (with_reducible repeat (first | apply Kd.R_alloc | apply Kd.R_drewN | apply Kd.R_drew)); exact HO_33.out)⟩; have n3_ : Aside0 (Kd.S (Kd.slice 38 k38) 36 wr w.heap.size (fun k_ => some k_ ≠ (u7 : Value).ownBlock ∧ k_ ≠ gb219) u4 x4_1) := ⟨by rw [← hq_]; exact (by (with_reducible repeat (first | apply Kd.S_alloc | apply Kd.S_drewN | apply Kd.S_drew)); exact HO_4.out)⟩; have n4_ : Aside0 (Kd.R k38 38 wr w.heap.size (fun k_ => k_ ≠ gb219) u7 x7_2) := ⟨by rw [← hq_]; exact (by (with_reducible repeat (first | apply Kd.R_alloc | apply Kd.R_drewN | apply Kd.R_drew)); exact HO_7.out)⟩; have n5_ : Aside0 (wr.heap[gb219]? = some (.cells #[.string x220000_3, .string x220001_3] 38 (0, 0))) := ⟨by rw [← hq_]; exact (by (with_reducible repeat (first | refine blk_drewN ?_ _ | refine blk_drew ?_ | refine blk_alloc ?_ _)); exact BK219.out)⟩; have n6_ : Aside0 (Below w.heap.size w wr) := ⟨by rw [← hq_]; exact (by repeat (first | (with_reducible first | exact HB.out | apply below_alloc | apply pw_below_drewN | apply below_drew1 | refine below_set ?_ GE219.out) | exact HB.out))⟩; clear HO_17 HO_24 HO_33 HO_4 HO_7 BK219 HB hq_; have HO_17 := n0_; have HO_24 := n1_; have HO_33 := n2_; have HO_4 := n3_; have HO_7 := n4_; have BK219 := n5_; have HB := n6_; clear n0_ n1_ n2_ n3_ n4_ n5_ n6_)); have hcz43_0 : wr.cell? ⟨gb219, 0, none⟩ = some (.string x220000_3) := (blk_cell BK219.out 0).trans rfl; have hcz43_1 : wr.cell? ⟨gb219, 1, none⟩ = some (.string x220001_3) := (blk_cell BK219.out 1).trans rfl; have hfz43_0 := blk_frozen BK219.out 0; have hfz43_1 := blk_frozen BK219.out 1) | (go_at_call 22; (with_reducible refine (impl_VersionOk.calls k3 ((rdOf ByteArray.empty t208 x26_2).extract ((rdOf ByteArray.empty y220 x35_3).size) (rdOf ByteArray.empty t208 x26_2).size) false _ A36.out).mono ?_); rintro e w44 ⟨rfl, hb⟩; have n0_ := Aside0.mk (Kd.S_below (by (with_reducible repeat (first | apply Kd.S_alloc | apply Kd.S_drewN | apply Kd.S_drew)); exact (Kd.S_mono (Kd.S_far (p := ⟨gb219, 1, none⟩) (Kd.S_far (p := ⟨gb219, 0, none⟩) (Kd.S_mono HO_4.out (fun k_ hk => (⟨hk, hk.2⟩ : _ ∧ k_ ≠ gb219))) (fun _ hk => hk.2) (.string (rdOf ByteArray.empty y220 x35_3))) (fun _ hk => hk.2) (.string ((rdOf ByteArray.empty t208 x26_2).extract ((rdOf ByteArray.empty y220 x35_3).size) (rdOf ByteArray.empty t208 x26_2).size))) (fun _ h_ => h_.1))) hb); have n1_ := Aside0.mk (Kd.R_below (by (with_reducible repeat (first | apply Kd.R_alloc | apply Kd.R_drewN | apply Kd.R_drew)); exact (Kd.R_mono (Kd.R_far (p := ⟨gb219, 1, none⟩) (Kd.R_far (p := ⟨gb219, 0, none⟩) (Kd.R_mono HO_7.out (fun k_ hk => (⟨hk, hk⟩ : _ ∧ k_ ≠ gb219))) (fun _ hk => hk.2) (.string (rdOf ByteArray.empty y220 x35_3))) (fun _ hk => hk.2) (.string ((rdOf ByteArray.empty t208 x26_2).extract ((rdOf ByteArray.empty y220 x35_3).size) (rdOf ByteArray.empty t208 x26_2).size))) (fun _ h_ => h_.1))) hb); have n2_ := Aside0.mk (Kd.R_below (by (with_reducible repeat (first | apply Kd.R_alloc | apply Kd.R_drewN | apply Kd.R_drew)); exact (Kd.R_mono (Kd.R_far (p := ⟨gb219, 1, none⟩) (Kd.R_far (p := ⟨gb219, 0, none⟩) (Kd.R_types HO_17.out BK219.out (by decide)) (fun _ hk => hk.2) (.string (rdOf ByteArray.empty y220 x35_3))) (fun _ hk => hk.2) (.string ((rdOf ByteArray.empty t208 x26_2).extract ((rdOf ByteArray.empty y220 x35_3).size) (rdOf ByteArray.empty t208 x26_2).size))) (fun _ h_ => h_.1))) hb); have n3_ := Aside0.mk (Kd.R_below (by (with_reducible repeat (first | apply Kd.R_alloc | apply Kd.R_drewN | apply Kd.R_drew)); exact (Kd.R_mono (Kd.R_far (p := ⟨gb219, 1, none⟩) (Kd.R_far (p := ⟨gb219, 0, none⟩) (Kd.R_types HO_24.out BK219.out (by decide)) (fun _ hk => hk.2) (.string (rdOf ByteArray.empty y220 x35_3))) (fun _ hk => hk.2) (.string ((rdOf ByteArray.empty t208 x26_2).extract ((rdOf ByteArray.empty y220 x35_3).size) (rdOf ByteArray.empty t208 x26_2).size))) (fun _ h_ => h_.1))) hb); have n4_ := Aside0.mk (Kd.R_below (by (with_reducible repeat (first | apply Kd.R_alloc | apply Kd.R_drewN | apply Kd.R_drew)); exact (Kd.R_mono (Kd.R_far (p := ⟨gb219, 1, none⟩) (Kd.R_far (p := ⟨gb219, 0, none⟩) (Kd.R_types HO_33.out BK219.out (by decide)) (fun _ hk => hk.2) (.string (rdOf ByteArray.empty y220 x35_3))) (fun _ hk => hk.2) (.string ((rdOf ByteArray.empty t208 x26_2).extract ((rdOf ByteArray.empty y220 x35_3).size) (rdOf ByteArray.empty t208 x26_2).size))) (fun _ h_ => h_.1))) hb); have n5_ := Aside0.mk (blk_below (g := gb219) (o := .cells #[.string (rdOf ByteArray.empty y220 x35_3), .string ((rdOf ByteArray.empty t208 x26_2).extract ((rdOf ByteArray.empty y220 x35_3).size) (rdOf ByteArray.empty t208 x26_2).size)] 38 (0, 0)) (by (with_reducible repeat (first | refine blk_drewN ?_ _ | refine blk_drew ?_ | refine blk_alloc ?_ _)); refine blk_put (cs := #[.string (rdOf ByteArray.empty y220 x35_3), .string x220001_3]) ?_ 1 _ rfl; (with_reducible repeat (first | refine blk_drewN ?_ _ | refine blk_drew ?_ | refine blk_alloc ?_ _)); refine blk_put (cs := #[.string x220000_3, .string x220001_3]) ?_ 0 _ rfl; (with_reducible repeat (first | refine blk_drewN ?_ _ | refine blk_drew ?_ | refine blk_alloc ?_ _)); exact BK219.out) hb); have n6_ := Aside0.mk (below_step (by repeat (first | (with_reducible first | exact HB.out | apply below_alloc | apply pw_below_drewN | apply below_drew1 | refine below_set ?_ GE219.out) | exact HB.out)) hb); clear HO_4; clear HO_7; clear HO_17; clear HO_24; clear HO_33; clear BK219; clear HB; have HO_4 := n0_; have HO_7 := n1_; have HO_17 := n2_; have HO_24 := n3_; have HO_33 := n4_; have BK219 := n5_; have HB := n6_; clear n0_ n1_ n2_ n3_ n4_ n5_ n6_; (try clear hb); (try clear hb2); (try clear hk); (try clear hi)))
                                                go_ret2
                                                exact ⟨_, by first | rfl | (simp [errW_none, errW_some] <;> rfl) | (simp [*, errW_none, errW_some] <;> rfl), by first | exact Kd.S_nil _ _ _ _ _ | exact Kd.N_nil _ _ _ _ _ | exact Kd.V_nil _ _ _ _ _ | exact Kd.Q_nil _ _ _ _ _ | exact Kd.R_nil _ _ _ _ _, by repeat (first | (with_reducible first | exact HB.out | apply below_alloc | apply pw_below_drewN | apply below_drew1 | refine below_set ?_ GE219.out) | exact HB.out)⟩
                                        · rw [if_neg c27] at H
                                          exact absurd H (by simp)
                                      · rw [if_neg c26] at H
                                        exact absurd H (by simp)
                                    · replace c25 := Bool.eq_false_iff.mpr c25
                                      subst c25
                                      have H1 : (impl_ReadConstraint.l2 k3 x4_1 x7_2 (rdOf ByteArray.empty t208 x26_2) t204 (t204.length : Int) x19_1 t208 (t208.length : Int) x26_2 y220 (y220.length : Int) (wrap64 (x35_3 + 1)) x220000_3 x220001_3) = some (r1, r2) := by rw [if_neg (show ¬ (false = true) by decide)] at H; exact H
                                      clear H
                                      have H := H1
                                      clear H1
                                      have H' := Aside0.mk H
                                      clear H
                                      have p223 : 0 ≤ (x35_3 : Int) := of_decide_eq_true (by first | (with_reducible assumption) | assumption)
                                      have q223 : x35_3 < (y220.length : Int) := of_decide_eq_true (by first | (with_reducible assumption) | assumption)
                                      obtain ⟨ad223, e223, hx223_0⟩ := Kd.at_string (Kd.R_reads' HO_33.out).2.2 x35_3 p223 q223
                                      cases e223
                                      replace p223 := eq_true p223
                                      replace q223 := eq_true q223
                                      go_wp2_with (first | ((with_reducible refine gate_callee (f := 21) rfl ?_); refine goesL_ (some 41) rfl rfl Tryd.func21 (by kernel_rfl) rfl #[.string (rdOf ByteArray.empty t208 x26_2), .string (rdOf ByteArray.empty y220 x35_3)] rfl (by (try simp only [List.map_toArray, List.map_cons, List.map_nil]); first | done | rfl | (simp only [List.length_drop, List.length_take]; rfl)) ?_; (with_reducible refine (strings_HasPrefix.calls (rdOf ByteArray.empty t208 x26_2) (rdOf ByteArray.empty y220 x35_3) false _ A24.out).mono ?_); rintro e w' ⟨rfl, ⟨nd, rfl⟩⟩; refine ⟨_, rfl, ?_⟩))
                                      go_roundg k3
                                      case measure => have := HK1.out; have := HK2.out; have := HK3.out; omega
                                      case rel => exact ⟨(wrap64 (x35_3 + 1)), (x220000_3), (x220001_3), (by first | rfl | (simp; done) | (simp [*]; done)), H', ⟨by have := HK1.out; have := HK2.out; have := HK3.out; omega⟩, ⟨by (with_reducible repeat (first | apply Kd.S_alloc | apply Kd.S_drewN | apply Kd.S_drew)); exact HO_4.out⟩, ⟨by (with_reducible repeat (first | apply Kd.R_alloc | apply Kd.R_drewN | apply Kd.R_drew)); exact HO_7.out⟩, ⟨by (with_reducible repeat (first | apply Kd.R_alloc | apply Kd.R_drewN | apply Kd.R_drew)); exact HO_17.out⟩, ⟨by (with_reducible repeat (first | apply Kd.R_alloc | apply Kd.R_drewN | apply Kd.R_drew)); exact HO_24.out⟩, ⟨by (with_reducible repeat (first | apply Kd.R_alloc | apply Kd.R_drewN | apply Kd.R_drew)); exact HO_33.out⟩, ⟨by (with_reducible repeat (first | refine blk_drewN ?_ _ | refine blk_drew ?_ | refine blk_alloc ?_ _)); exact BK219.out⟩, ⟨by repeat (first | (with_reducible first | exact HB.out | apply below_alloc | apply pw_below_drewN | apply below_drew1 | refine below_set ?_ GE219.out) | exact HB.out)⟩⟩
                                  · rw [if_neg c23] at H
                                    exact absurd H (by simp)
                                · rw [if_neg c22] at H
                                  exact absurd H (by simp)
                              · rw [if_neg c21] at H
                                have c21b0 : decide (x35_3 < (y220.length : Int)) = false := decide_eq_false c21
                                clear c21
                                by_cases c45 : x220000_3.toList = ([] : List UInt8)
                                · rw [if_pos c45] at H
                                  have c45b0 : (x220000_3.toList == ([] : List UInt8)) = true := beq_iff_eq.mpr c45
                                  have c45b1 : (x220000_3.toList != ([] : List UInt8)) = false := bne_eq_false_iff_eq.mpr c45
                                  clear c45
                                  simp only [Option.some.injEq, Prod.mk.injEq] at H
                                  obtain ⟨rfl, rfl⟩ := H
                                  have hcz46_0 : wr.cell? ⟨gb219, 0, none⟩ = some (.string x220000_3) := (blk_cell BK219.out 0).trans rfl
                                  have hcz46_1 : wr.cell? ⟨gb219, 1, none⟩ = some (.string x220001_3) := (blk_cell BK219.out 1).trans rfl
                                  have hfz46_0 := blk_frozen BK219.out 0
                                  have hfz46_1 := blk_frozen BK219.out 1
                                  go_wp2
                                  go_ret2
                                  exact ⟨_, by first | rfl | (simp [errW_none, errW_some] <;> rfl) | (simp [*, errW_none, errW_some] <;> rfl), by first | exact Kd.S_nil _ _ _ _ _ | exact Kd.N_nil _ _ _ _ _ | exact Kd.V_nil _ _ _ _ _ | exact Kd.Q_nil _ _ _ _ _ | exact Kd.R_nil _ _ _ _ _, by repeat (first | (with_reducible first | exact HB.out | apply below_alloc | apply pw_below_drewN | apply below_drew1 | refine below_set ?_ GE219.out) | exact HB.out)⟩
                                · rw [if_neg c45] at H
                                  have c45b0 : (x220000_3.toList == ([] : List UInt8)) = false := beq_eq_false_iff_ne.mpr c45
                                  have c45b1 : (x220000_3.toList != ([] : List UInt8)) = true := bne_iff_ne.mpr c45
                                  by_cases c47 : x220000_3.toList = ([42] : List UInt8)
                                  · rw [if_pos c47] at H
                                    have c47b0 : (x220000_3.toList == ([42] : List UInt8)) = true := beq_iff_eq.mpr c47
                                    have c47b1 : (x220000_3.toList != ([42] : List UInt8)) = false := bne_eq_false_iff_eq.mpr c47
                                    clear c47
                                    by_cases c48 : x220001_3.toList = ([] : List UInt8)
                                    · rw [if_pos c48] at H
                                      have c48b0 : (x220001_3.toList == ([] : List UInt8)) = true := beq_iff_eq.mpr c48
                                      have c48b1 : (x220001_3.toList != ([] : List UInt8)) = false := bne_eq_false_iff_eq.mpr c48
                                      clear c48
                                      by_cases c49 : x7_2.length < 4398046511104
                                      · rw [if_pos c49] at H
                                        have LMc49 := Aside0.mk c49
                                        clear c49
                                        obtain ⟨y232, hy232⟩ : ∃ y_ : List (S38), y_ = (x7_2 ++ [(⟨x220000_3, x220001_3⟩ : S38)]) := ⟨_, rfl⟩
                                        replace H : (impl_ReadConstraint.l1 k3 x4_1 y232 t204 (t204.length : Int) x19_1 t208 (t208.length : Int) (wrap64 (x26_2 + 1))) = some (r1, r2) := by first | (rw [hy232]; with_reducible exact H) | (have H2_ := (Option.bind_some _ _).symm.trans H; rw [hy232]; with_reducible exact H2_) | (have H2_ := (Option.bind_some _ _).symm.trans H; with_reducible exact H2_) | with_reducible exact H | (rw [hy232]; exact H) | exact H
                                        have Ny232 := Aside0.mk hy232
                                        clear hy232
                                        have H' := Aside0.mk H
                                        clear H
                                        have hcz50_0 : wr.cell? ⟨gb219, 0, none⟩ = some (.string x220000_3) := (blk_cell BK219.out 0).trans rfl
                                        have hcz50_1 : wr.cell? ⟨gb219, 1, none⟩ = some (.string x220001_3) := (blk_cell BK219.out 1).trans rfl
                                        have hfz50_0 := blk_frozen BK219.out 0
                                        have hfz50_1 := blk_frozen BK219.out 1
                                        go_wp2_with (first | ((with_reducible refine gate_builtin (b := .append) (xs := #[.tmp 73, .tmp 75]) rfl ?_); (try (refine gate_guard (by rfl) ?_; dsimp only)); at_builtin; refine Kd.R_append k38 (w0 := w) w.heap.size rfl (.tmp 73) (.tmp 75) 36 38 (.agg #[(.string ⟨#[]⟩), (.string ⟨#[]⟩)]) 32 rfl Tryd.underlying36 info38 rfl (by decide) (by omega) u7 x7_2 (⟨x220000_3, x220001_3⟩ : S38) [.string x220000_3, .string x220001_3] (fun k_ => k_ ≠ gb219) (fun _ => False) rfl rfl ?aP (fun _ hk => hk.elim) ?aF ?aO ?aB ?aS ?aL ?_; (case aP => exact k38_mkM _ _ _ (⟨x220000_3, x220001_3⟩ : S38)); (case aB => exact (by repeat (first | (with_reducible first | exact HB.out | apply below_alloc | apply pw_below_drewN | apply below_drew1 | refine below_set ?_ GE219.out) | exact HB.out))); (case aF => exact (fun k_ hk => Kd.freshB (g := gb219) (o := .cells #[.string x220000_3, .string x220001_3] 38 (0, 0)) (by (with_reducible repeat (first | refine blk_drewN ?_ _ | refine blk_drew ?_ | refine blk_alloc ?_ _)); exact BK219.out) k_ hk)); (case aO => exact (by (with_reducible repeat (first | apply Kd.R_alloc | apply Kd.R_drewN | apply Kd.R_drew)); exact HO_7.out)); (case aS => exact (below_size (by repeat (first | (with_reducible first | exact HB.out | apply below_alloc | apply pw_below_drewN | apply below_drew1 | refine below_set ?_ GE219.out) | exact HB.out)))); (case aL => have := LMc49.out; omega); intro v233 w51 ho hb hg hat; rw [← Ny232.out] at ho; have n0_ := Aside0.mk (Kd.S_after (ok := (fun k_ => k_ ≠ gb219)) (by (with_reducible repeat (first | apply Kd.S_alloc | apply Kd.S_drewN | apply Kd.S_drew)); exact Kd.S_mono HO_4.out (fun _ hk => ⟨hk.2, hk.1⟩)) hg hat); have n1_ := Aside0.mk (Kd.R_over' (by (with_reducible repeat (first | apply Kd.R_alloc | apply Kd.R_drewN | apply Kd.R_drew)); exact HO_17.out) (Kd.R_typed (by (with_reducible repeat (first | apply Kd.R_alloc | apply Kd.R_drewN | apply Kd.R_drew)); exact HO_7.out)) (by decide) hg); have n2_ := Aside0.mk (Kd.R_over' (by (with_reducible repeat (first | apply Kd.R_alloc | apply Kd.R_drewN | apply Kd.R_drew)); exact HO_24.out) (Kd.R_typed (by (with_reducible repeat (first | apply Kd.R_alloc | apply Kd.R_drewN | apply Kd.R_drew)); exact HO_7.out)) (by decide) hg); have n3_ := Aside0.mk (Kd.R_over' (by (with_reducible repeat (first | apply Kd.R_alloc | apply Kd.R_drewN | apply Kd.R_drew)); exact HO_33.out) (Kd.R_typed (by (with_reducible repeat (first | apply Kd.R_alloc | apply Kd.R_drewN | apply Kd.R_drew)); exact HO_7.out)) (by decide) hg); have n4_ := Aside0.mk (blk_grown (g := gb219) (o := .cells #[.string x220000_3, .string x220001_3] 38 (0, 0)) (by (with_reducible repeat (first | refine blk_drewN ?_ _ | refine blk_drew ?_ | refine blk_alloc ?_ _)); exact BK219.out) hg (Kd.R_away HO_7.out (fun _ hk => hk))); have n5_ := Aside0.mk (hb); have n6_ := Aside0.mk (ho); clear HO_4; clear HO_17; clear HO_24; clear HO_33; clear BK219; clear HB; clear HO_7; have HO_4 := n0_; have HO_17 := n1_; have HO_24 := n2_; have HO_33 := n3_; have BK219 := n4_; have HB := n5_; have HO234 := n6_; clear n0_ n1_ n2_ n3_ n4_ n5_ n6_; clear ho hb hg hat))
                                        go_roundg k3
                                        case measure => have := HK1.out; have := HK2.out; have := HK3.out; omega
                                        case rel => exact ⟨(y232), (wrap64 (x26_2 + 1)), (by first | rfl | (simp; done) | (simp [*]; done)), H', ⟨by have := HK1.out; have := HK2.out; have := HK3.out; omega⟩, ⟨by (with_reducible repeat (first | apply Kd.S_alloc | apply Kd.S_drewN | apply Kd.S_drew)); exact Kd.S_mono HO_4.out (fun _ hk => hk.2)⟩, ⟨by (with_reducible repeat (first | apply Kd.R_alloc | apply Kd.R_drewN | apply Kd.R_drew)); exact Kd.R_mono HO234.out (fun _ hk => trivial)⟩, ⟨by (with_reducible repeat (first | apply Kd.R_alloc | apply Kd.R_drewN | apply Kd.R_drew)); exact Kd.R_mono HO_17.out (fun _ hk => hk.1)⟩, ⟨by (with_reducible repeat (first | apply Kd.R_alloc | apply Kd.R_drewN | apply Kd.R_drew)); exact Kd.R_mono HO_24.out (fun _ hk => hk.1)⟩, ⟨by repeat (first | (with_reducible first | exact HB.out | apply below_alloc | apply pw_below_drewN | apply below_drew1 | refine below_set ?_ GE219.out) | exact HB.out)⟩⟩
                                      · rw [if_neg c49] at H
                                        exact absurd H (by simp)
                                    · rw [if_neg c48] at H
                                      have c48b0 : (x220001_3.toList == ([] : List UInt8)) = false := beq_eq_false_iff_ne.mpr c48
                                      have c48b1 : (x220001_3.toList != ([] : List UInt8)) = true := bne_iff_ne.mpr c48
                                      simp only [Option.some.injEq, Prod.mk.injEq] at H
                                      obtain ⟨rfl, rfl⟩ := H
                                      have hcz52_0 : wr.cell? ⟨gb219, 0, none⟩ = some (.string x220000_3) := (blk_cell BK219.out 0).trans rfl
                                      have hcz52_1 : wr.cell? ⟨gb219, 1, none⟩ = some (.string x220001_3) := (blk_cell BK219.out 1).trans rfl
                                      have hfz52_0 := blk_frozen BK219.out 0
                                      have hfz52_1 := blk_frozen BK219.out 1
                                      go_wp2
                                      go_ret2
                                      exact ⟨_, by first | rfl | (simp [errW_none, errW_some] <;> rfl) | (simp [*, errW_none, errW_some] <;> rfl), by first | exact Kd.S_nil _ _ _ _ _ | exact Kd.N_nil _ _ _ _ _ | exact Kd.V_nil _ _ _ _ _ | exact Kd.Q_nil _ _ _ _ _ | exact Kd.R_nil _ _ _ _ _, by repeat (first | (with_reducible first | exact HB.out | apply below_alloc | apply pw_below_drewN | apply below_drew1 | refine below_set ?_ GE219.out) | exact HB.out)⟩
                                  · rw [if_neg c47] at H
                                    have c47b0 : (x220000_3.toList == ([42] : List UInt8)) = false := beq_eq_false_iff_ne.mpr c47
                                    have c47b1 : (x220000_3.toList != ([42] : List UInt8)) = true := bne_iff_ne.mpr c47
                                    replace H := Option.bind_eq_some_iff.mp H
                                    obtain ⟨t235, A530, H⟩ := H
                                    replace H : (if t235 = true then (if x7_2.length < 4398046511104 then (impl_ReadConstraint.l1 k3 x4_1 (x7_2 ++ [(⟨x220000_3, x220001_3⟩ : S38)]) t204 (t204.length : Int) x19_1 t208 (t208.length : Int) (wrap64 (x26_2 + 1))) else (none)) else (some (([] : List (List (S38))), false))) = some (r1, r2) := H
                                    have A53 := Aside0.mk A530
                                    clear A530
                                    by_cases c54 : t235 = true
                                    · subst c54
                                      have H1 : (if x7_2.length < 4398046511104 then (impl_ReadConstraint.l1 k3 x4_1 (x7_2 ++ [(⟨x220000_3, x220001_3⟩ : S38)]) t204 (t204.length : Int) x19_1 t208 (t208.length : Int) (wrap64 (x26_2 + 1))) else (none)) = some (r1, r2) := by rw [if_pos rfl] at H; exact H
                                      clear H
                                      have H := H1
                                      clear H1
                                      by_cases c55 : x7_2.length < 4398046511104
                                      · rw [if_pos c55] at H
                                        have LMc55 := Aside0.mk c55
                                        clear c55
                                        obtain ⟨y236, hy236⟩ : ∃ y_ : List (S38), y_ = (x7_2 ++ [(⟨x220000_3, x220001_3⟩ : S38)]) := ⟨_, rfl⟩
                                        replace H : (impl_ReadConstraint.l1 k3 x4_1 y236 t204 (t204.length : Int) x19_1 t208 (t208.length : Int) (wrap64 (x26_2 + 1))) = some (r1, r2) := by first | (rw [hy236]; with_reducible exact H) | (have H2_ := (Option.bind_some _ _).symm.trans H; rw [hy236]; with_reducible exact H2_) | (have H2_ := (Option.bind_some _ _).symm.trans H; with_reducible exact H2_) | with_reducible exact H | (rw [hy236]; exact H) | exact H
                                        have Ny236 := Aside0.mk hy236
                                        clear hy236
                                        have H' := Aside0.mk H
                                        clear H
                                        have hcz56_0 : wr.cell? ⟨gb219, 0, none⟩ = some (.string x220000_3) := (blk_cell BK219.out 0).trans rfl
                                        have hcz56_1 : wr.cell? ⟨gb219, 1, none⟩ = some (.string x220001_3) := (blk_cell BK219.out 1).trans rfl
                                        have hfz56_0 := blk_frozen BK219.out 0
                                        have hfz56_1 := blk_frozen BK219.out 1
                                        go_wp2_with (first | (go_at_call 22; (with_reducible refine (impl_VersionOk.calls k3 x220001_3 true _ A53.out).mono ?_); rintro e w57 ⟨rfl, hb⟩; have n0_ := Aside0.mk (Kd.S_below (by (with_reducible repeat (first | apply Kd.S_alloc | apply Kd.S_drewN | apply Kd.S_drew)); exact HO_4.out) hb); have n1_ := Aside0.mk (Kd.R_below (by (with_reducible repeat (first | apply Kd.R_alloc | apply Kd.R_drewN | apply Kd.R_drew)); exact HO_7.out) hb); have n2_ := Aside0.mk (Kd.R_below (by (with_reducible repeat (first | apply Kd.R_alloc | apply Kd.R_drewN | apply Kd.R_drew)); exact HO_17.out) hb); have n3_ := Aside0.mk (Kd.R_below (by (with_reducible repeat (first | apply Kd.R_alloc | apply Kd.R_drewN | apply Kd.R_drew)); exact HO_24.out) hb); have n4_ := Aside0.mk (Kd.R_below (by (with_reducible repeat (first | apply Kd.R_alloc | apply Kd.R_drewN | apply Kd.R_drew)); exact HO_33.out) hb); have n5_ := Aside0.mk (blk_below (g := gb219) (o := .cells #[.string x220000_3, .string x220001_3] 38 (0, 0)) (by (with_reducible repeat (first | refine blk_drewN ?_ _ | refine blk_drew ?_ | refine blk_alloc ?_ _)); exact BK219.out) hb); have n6_ := Aside0.mk (below_step (by repeat (first | (with_reducible first | exact HB.out | apply below_alloc | apply pw_below_drewN | apply below_drew1 | refine below_set ?_ GE219.out) | exact HB.out)) hb); clear HO_4; clear HO_7; clear HO_17; clear HO_24; clear HO_33; clear BK219; clear HB; have HO_4 := n0_; have HO_7 := n1_; have HO_17 := n2_; have HO_24 := n3_; have HO_33 := n4_; have BK219 := n5_; have HB := n6_; clear n0_ n1_ n2_ n3_ n4_ n5_ n6_; (try clear hb); (try clear hb2); (try clear hk); (try clear hi); have hcz58_0 : w57.cell? ⟨gb219, 0, none⟩ = some (.string x220000_3) := (blk_cell BK219.out 0).trans rfl; have hcz58_1 : w57.cell? ⟨gb219, 1, none⟩ = some (.string x220001_3) := (blk_cell BK219.out 1).trans rfl; have hfz58_0 := blk_frozen BK219.out 0; have hfz58_1 := blk_frozen BK219.out 1) | ((with_reducible refine gate_builtin (b := .append) (xs := #[.tmp 73, .tmp 75]) rfl ?_); (try (refine gate_guard (by rfl) ?_; dsimp only)); at_builtin; refine Kd.R_append k38 (w0 := w) w.heap.size rfl (.tmp 73) (.tmp 75) 36 38 (.agg #[(.string ⟨#[]⟩), (.string ⟨#[]⟩)]) 32 rfl Tryd.underlying36 info38 rfl (by decide) (by omega) u7 x7_2 (⟨x220000_3, x220001_3⟩ : S38) [.string x220000_3, .string x220001_3] (fun k_ => k_ ≠ gb219) (fun _ => False) rfl rfl ?aP (fun _ hk => hk.elim) ?aF ?aO ?aB ?aS ?aL ?_; (case aP => exact k38_mkM _ _ _ (⟨x220000_3, x220001_3⟩ : S38)); (case aB => exact (by repeat (first | (with_reducible first | exact HB.out | apply below_alloc | apply pw_below_drewN | apply below_drew1 | refine below_set ?_ GE219.out) | exact HB.out))); (case aF => exact (fun k_ hk => Kd.freshB (g := gb219) (o := .cells #[.string x220000_3, .string x220001_3] 38 (0, 0)) (by (with_reducible repeat (first | refine blk_drewN ?_ _ | refine blk_drew ?_ | refine blk_alloc ?_ _)); exact BK219.out) k_ hk)); (case aO => exact (by (with_reducible repeat (first | apply Kd.R_alloc | apply Kd.R_drewN | apply Kd.R_drew)); exact HO_7.out)); (case aS => exact (below_size (by repeat (first | (with_reducible first | exact HB.out | apply below_alloc | apply pw_below_drewN | apply below_drew1 | refine below_set ?_ GE219.out) | exact HB.out)))); (case aL => have := LMc55.out; omega); intro v237 w59 ho hb hg hat; rw [← Ny236.out] at ho; have n0_ := Aside0.mk (Kd.S_after (ok := (fun k_ => k_ ≠ gb219)) (by (with_reducible repeat (first | apply Kd.S_alloc | apply Kd.S_drewN | apply Kd.S_drew)); exact Kd.S_mono HO_4.out (fun _ hk => ⟨hk.2, hk.1⟩)) hg hat); have n1_ := Aside0.mk (Kd.R_over' (by (with_reducible repeat (first | apply Kd.R_alloc | apply Kd.R_drewN | apply Kd.R_drew)); exact HO_17.out) (Kd.R_typed (by (with_reducible repeat (first | apply Kd.R_alloc | apply Kd.R_drewN | apply Kd.R_drew)); exact HO_7.out)) (by decide) hg); have n2_ := Aside0.mk (Kd.R_over' (by (with_reducible repeat (first | apply Kd.R_alloc | apply Kd.R_drewN | apply Kd.R_drew)); exact HO_24.out) (Kd.R_typed (by (with_reducible repeat (first | apply Kd.R_alloc | apply Kd.R_drewN | apply Kd.R_drew)); exact HO_7.out)) (by decide) hg); have n3_ := Aside0.mk (Kd.R_over' (by (with_reducible repeat (first | apply Kd.R_alloc | apply Kd.R_drewN | apply Kd.R_drew)); exact HO_33.out) (Kd.R_typed (by (with_reducible repeat (first | apply Kd.R_alloc | apply Kd.R_drewN | apply Kd.R_drew)); exact HO_7.out)) (by decide) hg); have n4_ := Aside0.mk (blk_grown (g := gb219) (o := .cells #[.string x220000_3, .string x220001_3] 38 (0, 0)) (by (with_reducible repeat (first | refine blk_drewN ?_ _ | refine blk_drew ?_ | refine blk_alloc ?_ _)); exact BK219.out) hg (Kd.R_away HO_7.out (fun _ hk => hk))); have n5_ := Aside0.mk (hb); have n6_ := Aside0.mk (ho); clear HO_4; clear HO_17; clear HO_24; clear HO_33; clear BK219; clear HB; clear HO_7; have HO_4 := n0_; have HO_17 := n1_; have HO_24 := n2_; have HO_33 := n3_; have BK219 := n4_; have HB := n5_; have HO238 := n6_; clear n0_ n1_ n2_ n3_ n4_ n5_ n6_; clear ho hb hg hat))
                                        go_roundg k3
                                        case measure => have := HK1.out; have := HK2.out; have := HK3.out; omega
                                        case rel => exact ⟨(y236), (wrap64 (x26_2 + 1)), (by first | rfl | (simp; done) | (simp [*]; done)), H', ⟨by have := HK1.out; have := HK2.out; have := HK3.out; omega⟩, ⟨by (with_reducible repeat (first | apply Kd.S_alloc | apply Kd.S_drewN | apply Kd.S_drew)); exact Kd.S_mono HO_4.out (fun _ hk => hk.2)⟩, ⟨by (with_reducible repeat (first | apply Kd.R_alloc | apply Kd.R_drewN | apply Kd.R_drew)); exact Kd.R_mono HO238.out (fun _ hk => trivial)⟩, ⟨by (with_reducible repeat (first | apply Kd.R_alloc | apply Kd.R_drewN | apply Kd.R_drew)); exact Kd.R_mono HO_17.out (fun _ hk => hk.1)⟩, ⟨by (with_reducible repeat (first | apply Kd.R_alloc | apply Kd.R_drewN | apply Kd.R_drew)); exact Kd.R_mono HO_24.out (fun _ hk => hk.1)⟩, ⟨by repeat (first | (with_reducible first | exact HB.out | apply below_alloc | apply pw_below_drewN | apply below_drew1 | refine below_set ?_ GE219.out) | exact HB.out)⟩⟩
                                      · rw [if_neg c55] at H
                                        exact absurd H (by simp)
                                    · replace c54 := Bool.eq_false_iff.mpr c54
                                      subst c54
                                      have H1 : (some (([] : List (List (S38))), false)) = some (r1, r2) := by rw [if_neg (show ¬ (false = true) by decide)] at H; exact H
                                      clear H
                                      have H := H1
                                      clear H1
                                      simp only [Option.some.injEq, Prod.mk.injEq] at H
                                      obtain ⟨rfl, rfl⟩ := H
                                      have hcz60_0 : wr.cell? ⟨gb219, 0, none⟩ = some (.string x220000_3) := (blk_cell BK219.out 0).trans rfl
                                      have hcz60_1 : wr.cell? ⟨gb219, 1, none⟩ = some (.string x220001_3) := (blk_cell BK219.out 1).trans rfl
                                      have hfz60_0 := blk_frozen BK219.out 0
                                      have hfz60_1 := blk_frozen BK219.out 1
                                      go_wp2_with (first | (go_at_call 22; (with_reducible refine (impl_VersionOk.calls k3 x220001_3 false _ A53.out).mono ?_); rintro e w61 ⟨rfl, hb⟩; have n0_ := Aside0.mk (Kd.S_below (by (with_reducible repeat (first | apply Kd.S_alloc | apply Kd.S_drewN | apply Kd.S_drew)); exact HO_4.out) hb); have n1_ := Aside0.mk (Kd.R_below (by (with_reducible repeat (first | apply Kd.R_alloc | apply Kd.R_drewN | apply Kd.R_drew)); exact HO_7.out) hb); have n2_ := Aside0.mk (Kd.R_below (by (with_reducible repeat (first | apply Kd.R_alloc | apply Kd.R_drewN | apply Kd.R_drew)); exact HO_17.out) hb); have n3_ := Aside0.mk (Kd.R_below (by (with_reducible repeat (first | apply Kd.R_alloc | apply Kd.R_drewN | apply Kd.R_drew)); exact HO_24.out) hb); have n4_ := Aside0.mk (Kd.R_below (by (with_reducible repeat (first | apply Kd.R_alloc | apply Kd.R_drewN | apply Kd.R_drew)); exact HO_33.out) hb); have n5_ := Aside0.mk (blk_below (g := gb219) (o := .cells #[.string x220000_3, .string x220001_3] 38 (0, 0)) (by (with_reducible repeat (first | refine blk_drewN ?_ _ | refine blk_drew ?_ | refine blk_alloc ?_ _)); exact BK219.out) hb); have n6_ := Aside0.mk (below_step (by repeat (first | (with_reducible first | exact HB.out | apply below_alloc | apply pw_below_drewN | apply below_drew1 | refine below_set ?_ GE219.out) | exact HB.out)) hb); clear HO_4; clear HO_7; clear HO_17; clear HO_24; clear HO_33; clear BK219; clear HB; have HO_4 := n0_; have HO_7 := n1_; have HO_17 := n2_; have HO_24 := n3_; have HO_33 := n4_; have BK219 := n5_; have HB := n6_; clear n0_ n1_ n2_ n3_ n4_ n5_ n6_; (try clear hb); (try clear hb2); (try clear hk); (try clear hi)))
                                      go_ret2
                                      exact ⟨_, by first | rfl | (simp [errW_none, errW_some] <;> rfl) | (simp [*, errW_none, errW_some] <;> rfl), by first | exact Kd.S_nil _ _ _ _ _ | exact Kd.N_nil _ _ _ _ _ | exact Kd.V_nil _ _ _ _ _ | exact Kd.Q_nil _ _ _ _ _ | exact Kd.R_nil _ _ _ _ _, by repeat (first | (with_reducible first | exact HB.out | apply below_alloc | apply pw_below_drewN | apply below_drew1 | refine below_set ?_ GE219.out) | exact HB.out)⟩
                      · rw [if_neg c14] at H
                        exact absurd H (by simp)
                    · rw [if_neg c13] at H
                      exact absurd H (by simp)
                  · rw [if_neg c12] at H
                    have c12b0 : decide (x26_2 < (t208.length : Int)) = false := decide_eq_false c12
                    clear c12
                    by_cases c62 : (x7_2.length : Int) = 0
                    · rw [if_pos c62] at H
                      have c62b0 : ((x7_2.length : Int) == 0) = true := beq_iff_eq.mpr c62
                      have c62b1 : ((x7_2.length : Int) != 0) = false := bne_eq_false_iff_eq.mpr c62
                      clear c62
                      simp only [Option.some.injEq, Prod.mk.injEq] at H
                      obtain ⟨rfl, rfl⟩ := H
                      obtain ⟨Ao63, co63, eo63⟩ := Kd.R_slice HO_7.out
                      subst eo63
                      go_wp2
                      go_ret2
                      exact ⟨_, by first | rfl | (simp [errW_none, errW_some] <;> rfl) | (simp [*, errW_none, errW_some] <;> rfl), by first | exact Kd.S_nil _ _ _ _ _ | exact Kd.N_nil _ _ _ _ _ | exact Kd.V_nil _ _ _ _ _ | exact Kd.Q_nil _ _ _ _ _ | exact Kd.R_nil _ _ _ _ _, by repeat (first | (with_reducible first | exact HB.out | apply below_alloc | apply pw_below_drewN | apply below_drew1) | exact HB.out)⟩
                    · rw [if_neg c62] at H
                      have c62b0 : ((x7_2.length : Int) == 0) = false := beq_eq_false_iff_ne.mpr c62
                      have c62b1 : ((x7_2.length : Int) != 0) = true := bne_iff_ne.mpr c62
                      have c62b2 : ¬ (x7_2 = []) := fun h_ => c62 (by rw [h_]; rfl)
                      by_cases c64 : (x7_2.length : Int) > 1
                      · rw [if_pos c64] at H
                        have c64b0 : decide (1 < (x7_2.length : Int)) = true := decide_eq_true c64
                        have c64b1 : decide (1 < x7_2.length) = true := decide_eq_true (by omega)
                        clear c64
                        replace H := Option.bind_eq_some_iff.mp H
                        obtain ⟨t211, A650, H⟩ := H
                        replace H : (if t211 = true then (some (([] : List (List (S38))), false)) else (if x4_1.length < 5864062014805 then (impl_ReadConstraint.l0 k2 (x4_1 ++ [x7_2]) t204 (t204.length : Int) (wrap64 (x19_1 + 1))) else (none))) = some (r1, r2) := H
                        have A65 := Aside0.mk A650
                        clear A650
                        by_cases c66 : t211 = true
                        · subst c66
                          have H1 : (some (([] : List (List (S38))), false)) = some (r1, r2) := by rw [if_pos rfl] at H; exact H
                          clear H
                          have H := H1
                          clear H1
                          simp only [Option.some.injEq, Prod.mk.injEq] at H
                          obtain ⟨rfl, rfl⟩ := H
                          obtain ⟨Ao67, co67, eo67⟩ := Kd.R_slice HO_7.out
                          subst eo67
                          go_wp2_with (first | (go_at_call 23; (with_reducible refine (impl_Term.calls _ _ x7_2 true _ ?side1 ?side2 A65.out).mono ?_); (case side1 => repeat (first | exact (Kd.R_reads' HO_7.out).2.2 | (with_reducible refine Kd.C_alloc ?_ _) | (with_reducible refine Kd.C_drewN ?_ _) | (with_reducible refine Kd.C_drew ?_))); (case side2 => exact (Kd.R_reads' HO_7.out).2.1); rintro e w68 ⟨rfl, hb⟩; have n0_ := Aside0.mk (Kd.S_below (by (with_reducible repeat (first | apply Kd.S_alloc | apply Kd.S_drewN | apply Kd.S_drew)); exact HO_4.out) hb); have n1_ := Aside0.mk (Kd.R_below (by (with_reducible repeat (first | apply Kd.R_alloc | apply Kd.R_drewN | apply Kd.R_drew)); exact HO_7.out) hb); have n2_ := Aside0.mk (Kd.R_below (by (with_reducible repeat (first | apply Kd.R_alloc | apply Kd.R_drewN | apply Kd.R_drew)); exact HO_17.out) hb); have n3_ := Aside0.mk (Kd.R_below (by (with_reducible repeat (first | apply Kd.R_alloc | apply Kd.R_drewN | apply Kd.R_drew)); exact HO_24.out) hb); have n4_ := Aside0.mk (below_step (by repeat (first | (with_reducible first | exact HB.out | apply below_alloc | apply pw_below_drewN | apply below_drew1) | exact HB.out)) hb); clear HO_4; clear HO_7; clear HO_17; clear HO_24; clear HB; have HO_4 := n0_; have HO_7 := n1_; have HO_17 := n2_; have HO_24 := n3_; have HB := n4_; clear n0_ n1_ n2_ n3_ n4_; (try clear hb); (try clear hb2); (try clear hk); (try clear hi)))
                          go_ret2
                          exact ⟨_, by first | rfl | (simp [errW_none, errW_some] <;> rfl) | (simp [*, errW_none, errW_some] <;> rfl), by first | exact Kd.S_nil _ _ _ _ _ | exact Kd.N_nil _ _ _ _ _ | exact Kd.V_nil _ _ _ _ _ | exact Kd.Q_nil _ _ _ _ _ | exact Kd.R_nil _ _ _ _ _, by repeat (first | (with_reducible first | exact HB.out | apply below_alloc | apply pw_below_drewN | apply below_drew1) | exact HB.out)⟩
                        · replace c66 := Bool.eq_false_iff.mpr c66
                          subst c66
                          have H1 : (if x4_1.length < 5864062014805 then (impl_ReadConstraint.l0 k2 (x4_1 ++ [x7_2]) t204 (t204.length : Int) (wrap64 (x19_1 + 1))) else (none)) = some (r1, r2) := by rw [if_neg (show ¬ (false = true) by decide)] at H; exact H
                          clear H
                          have H := H1
                          clear H1
                          by_cases c69 : x4_1.length < 5864062014805
                          · rw [if_pos c69] at H
                            have LMc69 := Aside0.mk c69
                            clear c69
                            obtain ⟨y212, hy212⟩ : ∃ y_ : List (List (S38)), y_ = (x4_1 ++ [x7_2]) := ⟨_, rfl⟩
                            replace H : (impl_ReadConstraint.l0 k2 y212 t204 (t204.length : Int) (wrap64 (x19_1 + 1))) = some (r1, r2) := by first | (rw [hy212]; with_reducible exact H) | (have H2_ := (Option.bind_some _ _).symm.trans H; rw [hy212]; with_reducible exact H2_) | (have H2_ := (Option.bind_some _ _).symm.trans H; with_reducible exact H2_) | with_reducible exact H | (rw [hy212]; exact H) | exact H
                            have Ny212 := Aside0.mk hy212
                            clear hy212
                            have H' := Aside0.mk H
                            clear H
                            obtain ⟨Ao70, co70, eo70⟩ := Kd.R_slice HO_7.out
                            subst eo70
                            go_wp2_with (first | (go_at_call 23; (with_reducible refine (impl_Term.calls _ _ x7_2 false _ ?side1 ?side2 A65.out).mono ?_); (case side1 => repeat (first | exact (Kd.R_reads' HO_7.out).2.2 | (with_reducible refine Kd.C_alloc ?_ _) | (with_reducible refine Kd.C_drewN ?_ _) | (with_reducible refine Kd.C_drew ?_))); (case side2 => exact (Kd.R_reads' HO_7.out).2.1); rintro e w71 ⟨rfl, hb⟩; have n0_ := Aside0.mk (Kd.S_below (by (with_reducible repeat (first | apply Kd.S_alloc | apply Kd.S_drewN | apply Kd.S_drew)); exact HO_4.out) hb); have n1_ := Aside0.mk (Kd.R_below (by (with_reducible repeat (first | apply Kd.R_alloc | apply Kd.R_drewN | apply Kd.R_drew)); exact HO_7.out) hb); have n2_ := Aside0.mk (Kd.R_below (by (with_reducible repeat (first | apply Kd.R_alloc | apply Kd.R_drewN | apply Kd.R_drew)); exact HO_17.out) hb); have n3_ := Aside0.mk (Kd.R_below (by (with_reducible repeat (first | apply Kd.R_alloc | apply Kd.R_drewN | apply Kd.R_drew)); exact HO_24.out) hb); have n4_ := Aside0.mk (below_step (by repeat (first | (with_reducible first | exact HB.out | apply below_alloc | apply pw_below_drewN | apply below_drew1) | exact HB.out)) hb); clear HO_4; clear HO_7; clear HO_17; clear HO_24; clear HB; have HO_4 := n0_; have HO_7 := n1_; have HO_17 := n2_; have HO_24 := n3_; have HB := n4_; clear n0_ n1_ n2_ n3_ n4_; (try clear hb); (try clear hb2); (try clear hk); (try clear hi)) | ((with_reducible refine gate_builtin (b := .append) (xs := #[.tmp 90, .tmp 92]) rfl ?_); (try (refine gate_guard (by rfl) ?_; dsimp only)); at_builtin; refine Kd.S_append (Kd.slice 38 k38) (w0 := w) w.heap.size rfl (.tmp 90) (.tmp 92) 22 36 (.slice none 0 0) 24 rfl Tryd.underlying22 info36 rfl (by decide) (by omega) u4 x4_1 x7_2 [.slice Ao70 x7_2.length co70] (fun _ => True) (fun k_ => some k_ = (.slice Ao70 x7_2.length co70 : Value).ownBlock) rfl rfl ?aP (fun k_ hk_ => ((Kd.R_mono (ok' := fun k_ => ((fun _ => True)) k_ ∧ some k_ ≠ (u4 : Value).ownBlock) (Kd.R_apart' (HO_7.out) (Kd.S_typed HO_4.out) (by decide)) (fun k_ hk => ⟨trivial, hk.2⟩))).1 k_ hk_.symm) ?aF ?aO ?aB ?aS ?aL ?_; (case aP => exact Kd.M_row (Kd.R_mono (Kd.R_tight rfl (Kd.R_mono (ok' := fun k_ => ((fun _ => True)) k_ ∧ some k_ ≠ (u4 : Value).ownBlock) (Kd.R_apart' (HO_7.out) (Kd.S_typed HO_4.out) (by decide)) (fun k_ hk => ⟨trivial, hk.2⟩))) (fun _ h_ => h_))); (case aB => exact (by repeat (first | (with_reducible first | exact HB.out | apply below_alloc | apply pw_below_drewN | apply below_drew1) | exact HB.out))); (case aF => exact (fun _ _ => trivial)); (case aO => exact (by (with_reducible repeat (first | apply Kd.S_alloc | apply Kd.S_drewN | apply Kd.S_drew)); exact Kd.S_mono HO_4.out (fun k_ hk => ⟨trivial, fun e_ => hk e_⟩))); (case aS => exact (below_size (by repeat (first | (with_reducible first | exact HB.out | apply below_alloc | apply pw_below_drewN | apply below_drew1) | exact HB.out)))); (case aL => have := LMc69.out; omega); intro v213 w72 ho hb hg hat; rw [← Ny212.out] at ho; have n0_ := Aside0.mk (Kd.R_over' (by (with_reducible repeat (first | apply Kd.R_alloc | apply Kd.R_drewN | apply Kd.R_drew)); exact HO_17.out) (Kd.S_typed (by (with_reducible repeat (first | apply Kd.S_alloc | apply Kd.S_drewN | apply Kd.S_drew)); exact HO_4.out)) (by decide) hg); have n1_ := Aside0.mk (Kd.R_over' (by (with_reducible repeat (first | apply Kd.R_alloc | apply Kd.R_drewN | apply Kd.R_drew)); exact HO_24.out) (Kd.S_typed (by (with_reducible repeat (first | apply Kd.S_alloc | apply Kd.S_drewN | apply Kd.S_drew)); exact HO_4.out)) (by decide) hg); have n2_ := Aside0.mk (hb); have n3_ := Aside0.mk (ho); clear HO_17; clear HO_24; clear HB; clear HO_4; clear HO_7; have HO_17 := n0_; have HO_24 := n1_; have HB := n2_; have HO214 := n3_; clear n0_ n1_ n2_ n3_; clear ho hb hg hat))
                            go_roundg k2
                            case measure => have := HK1.out; have := HK2.out; omega
                            case rel => exact ⟨(y212), (wrap64 (x19_1 + 1)), (by first | rfl | (simp; done) | (simp [*]; done)), H', ⟨by have := HK1.out; have := HK2.out; omega⟩, ⟨by (with_reducible repeat (first | apply Kd.S_alloc | apply Kd.S_drewN | apply Kd.S_drew)); exact HO214.out⟩, ⟨by (with_reducible repeat (first | apply Kd.R_alloc | apply Kd.R_drewN | apply Kd.R_drew)); exact Kd.R_mono HO_17.out (fun _ hk => trivial)⟩, ⟨by repeat (first | (with_reducible first | exact HB.out | apply below_alloc | apply pw_below_drewN | apply below_drew1) | exact HB.out)⟩⟩
                          · rw [if_neg c69] at H
                            exact absurd H (by simp)
                      · rw [if_neg c64] at H
                        have c64b0 : decide (1 < (x7_2.length : Int)) = false := decide_eq_false c64
                        have c64b1 : decide (1 < x7_2.length) = false := decide_eq_false (by omega)
                        clear c64
                        by_cases c73 : x4_1.length < 5864062014805
                        · rw [if_pos c73] at H
                          have LMc73 := Aside0.mk c73
                          clear c73
                          obtain ⟨y215, hy215⟩ : ∃ y_ : List (List (S38)), y_ = (x4_1 ++ [x7_2]) := ⟨_, rfl⟩
                          replace H : (impl_ReadConstraint.l0 k2 y215 t204 (t204.length : Int) (wrap64 (x19_1 + 1))) = some (r1, r2) := by first | (rw [hy215]; with_reducible exact H) | (have H2_ := (Option.bind_some _ _).symm.trans H; rw [hy215]; with_reducible exact H2_) | (have H2_ := (Option.bind_some _ _).symm.trans H; with_reducible exact H2_) | with_reducible exact H | (rw [hy215]; exact H) | exact H
                          have Ny215 := Aside0.mk hy215
                          clear hy215
                          have H' := Aside0.mk H
                          clear H
                          obtain ⟨Ao74, co74, eo74⟩ := Kd.R_slice HO_7.out
                          subst eo74
                          go_wp2_with (first | ((with_reducible refine gate_builtin (b := .append) (xs := #[.tmp 90, .tmp 92]) rfl ?_); (try (refine gate_guard (by rfl) ?_; dsimp only)); at_builtin; refine Kd.S_append (Kd.slice 38 k38) (w0 := w) w.heap.size rfl (.tmp 90) (.tmp 92) 22 36 (.slice none 0 0) 24 rfl Tryd.underlying22 info36 rfl (by decide) (by omega) u4 x4_1 x7_2 [.slice Ao74 x7_2.length co74] (fun _ => True) (fun k_ => some k_ = (.slice Ao74 x7_2.length co74 : Value).ownBlock) rfl rfl ?aP (fun k_ hk_ => ((Kd.R_mono (ok' := fun k_ => ((fun _ => True)) k_ ∧ some k_ ≠ (u4 : Value).ownBlock) (Kd.R_apart' (HO_7.out) (Kd.S_typed HO_4.out) (by decide)) (fun k_ hk => ⟨trivial, hk.2⟩))).1 k_ hk_.symm) ?aF ?aO ?aB ?aS ?aL ?_; (case aP => exact Kd.M_row (Kd.R_mono (Kd.R_tight rfl (Kd.R_mono (ok' := fun k_ => ((fun _ => True)) k_ ∧ some k_ ≠ (u4 : Value).ownBlock) (Kd.R_apart' (HO_7.out) (Kd.S_typed HO_4.out) (by decide)) (fun k_ hk => ⟨trivial, hk.2⟩))) (fun _ h_ => h_))); (case aB => exact (by repeat (first | (with_reducible first | exact HB.out | apply below_alloc | apply pw_below_drewN | apply below_drew1) | exact HB.out))); (case aF => exact (fun _ _ => trivial)); (case aO => exact (by (with_reducible repeat (first | apply Kd.S_alloc | apply Kd.S_drewN | apply Kd.S_drew)); exact Kd.S_mono HO_4.out (fun k_ hk => ⟨trivial, fun e_ => hk e_⟩))); (case aS => exact (below_size (by repeat (first | (with_reducible first | exact HB.out | apply below_alloc | apply pw_below_drewN | apply below_drew1) | exact HB.out)))); (case aL => have := LMc73.out; omega); intro v216 w75 ho hb hg hat; rw [← Ny215.out] at ho; have n0_ := Aside0.mk (Kd.R_over' (by (with_reducible repeat (first | apply Kd.R_alloc | apply Kd.R_drewN | apply Kd.R_drew)); exact HO_17.out) (Kd.S_typed (by (with_reducible repeat (first | apply Kd.S_alloc | apply Kd.S_drewN | apply Kd.S_drew)); exact HO_4.out)) (by decide) hg); have n1_ := Aside0.mk (Kd.R_over' (by (with_reducible repeat (first | apply Kd.R_alloc | apply Kd.R_drewN | apply Kd.R_drew)); exact HO_24.out) (Kd.S_typed (by (with_reducible repeat (first | apply Kd.S_alloc | apply Kd.S_drewN | apply Kd.S_drew)); exact HO_4.out)) (by decide) hg); have n2_ := Aside0.mk (hb); have n3_ := Aside0.mk (ho); clear HO_17; clear HO_24; clear HB; clear HO_4; clear HO_7; have HO_17 := n0_; have HO_24 := n1_; have HB := n2_; have HO217 := n3_; clear n0_ n1_ n2_ n3_; clear ho hb hg hat))
                          go_roundg k2
                          case measure => have := HK1.out; have := HK2.out; omega
                          case rel => exact ⟨(y215), (wrap64 (x19_1 + 1)), (by first | rfl | (simp; done) | (simp [*]; done)), H', ⟨by have := HK1.out; have := HK2.out; omega⟩, ⟨by (with_reducible repeat (first | apply Kd.S_alloc | apply Kd.S_drewN | apply Kd.S_drew)); exact HO217.out⟩, ⟨by (with_reducible repeat (first | apply Kd.R_alloc | apply Kd.R_drewN | apply Kd.R_drew)); exact Kd.R_mono HO_17.out (fun _ hk => trivial)⟩, ⟨by repeat (first | (with_reducible first | exact HB.out | apply below_alloc | apply pw_below_drewN | apply below_drew1) | exact HB.out)⟩⟩
                        · rw [if_neg c73] at H
                          exact absurd H (by simp)
            · rw [if_neg c8] at H
              exact absurd H (by simp)
          · rw [if_neg c7] at H
            exact absurd H (by simp)
        · rw [if_neg c6] at H
          have c6b0 : decide (x19_1 < (t204.length : Int)) = false := decide_eq_false c6
          clear c6
          simp only [Option.some.injEq, Prod.mk.injEq] at H
          obtain ⟨rfl, rfl⟩ := H
          go_wp2
          go_ret2
          exact ⟨_, by first | rfl | (simp [errW_none, errW_some] <;> rfl) | (simp [*, errW_none, errW_some] <;> rfl), by (with_reducible repeat (first | apply Kd.S_alloc | apply Kd.S_drewN | apply Kd.S_drew)); exact HO_4.out, by repeat (first | (with_reducible first | exact HB.out | apply below_alloc | apply pw_below_drewN | apply below_drew1) | exact HB.out)⟩
end Go.Proofs.YthfohhpjanoimaaDoor.P
end

section
namespace Go.Proofs.YthfohhpjanoimaaDoor.P
open Go.RowKit Go.Proofs.YthfohhpjanoimaaDoorW.PrintWords Go.Proofs.YthfohhpjanoimaaDoorW.PrintLast Go.Proofs.YthfohhpjanoimaaDoorW.PrintMore Go.Proofs.YthfohhpjanoimaaDoorM
attribute [local go_sem] max2_int min2_int max_two min_two max_three min_three max_four min_four   -- for this text's walks alone
set_option linter.unusedVariables false
set_option linter.unusedSimpArgs false
theorem eqA38 (d : Nat) (w : World) (x0 y0 : ByteArray) (x1 y1 : ByteArray) :
    (Op.equalIn (d + 2) 38 (.agg #[.string x0, .string x1]) (.agg #[.string y0, .string y1])).run Tryd.prog w = .ok (x0.toList == y0.toList && (x1.toList == y1.toList)) w := by
  refine eqA_of Tryd.underlying38 (by kernel_rfl) ?_
  refine eqf_cons (by rfl) (by go_simp; rfl) (by go_simp; rfl) (by go_simp) ?_
  exact eqf_last (by rfl) (by go_simp; rfl) (by go_simp; rfl) (by go_simp)
end Go.Proofs.YthfohhpjanoimaaDoor.P
end
