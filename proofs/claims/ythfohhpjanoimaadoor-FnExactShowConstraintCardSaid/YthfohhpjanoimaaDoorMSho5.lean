/- Texts of Sho, put together by program. -/
import Derived.Test.YthfohhpjanoimaaDoorMSho3
import Derived.Test.YthfohhpjanoimaaDoorMSho4

section
namespace Go.Proofs.YthfohhpjanoimaaDoor.P
open Go.RowKit Go.Proofs.YthfohhpjanoimaaDoorW.PrintWords Go.Proofs.YthfohhpjanoimaaDoorW.PrintLast Go.Proofs.YthfohhpjanoimaaDoorW.PrintMore Go.Proofs.YthfohhpjanoimaaDoorM
attribute [local go_sem] max2_int min2_int max_two min_two max_three min_three max_four min_four   -- for this text's walks alone
set_option linter.unusedVariables false
set_option linter.unusedSimpArgs false
attribute [local go_sem high] eqA38
mutual
def spec_ShowConstraint.l0 : Nat → List (List (S38)) → ByteArray → Int → Option (ByteArray)
  | 0, _, _, _ => none
  | k + 1, x0, x3, x4 => if x4 < (x0.length : Int) then (if x4 > 0 then (if x3.size + 4 ≤ 9223372036854775807 then (spec_ShowConstraint.j1 k x0 (x3 ++ (⟨#[32, 124, 124, 32]⟩ : ByteArray)) x4) else (none)) else (spec_ShowConstraint.j1 k x0 x3 x4)) else ((spec_ReadConstraint.f k x3).bind fun bt352 => (if bt352.2 = true then (if (x0.length : Int) = 0 then (some (⟨#[]⟩ : ByteArray)) else (some x3)) else (some (⟨#[]⟩ : ByteArray))))
def spec_ShowConstraint.j1 : Nat → List (List (S38)) → ByteArray → Int → Option (ByteArray)
  | 0, _, _, _ => none
  | k + 1, x0, x3, x4 => spec_ShowConstraint.l1 k x0 x3 x4 0
def spec_ShowConstraint.l1 : Nat → List (List (S38)) → ByteArray → Int → Int → Option (ByteArray)
  | 0, _, _, _, _ => none
  | k + 1, x0, x3, x4, x5 => if 0 ≤ x4 then (if x4 < (x0.length : Int) then (if x5 < ((rd_L4 x0 x4).length : Int) then (if x5 > 0 then (if x3.size + 1 ≤ 9223372036854775807 then (if 0 ≤ x5 then (if ((rd_T38 (rd_L4 x0 x4) x5).f0).size + ((rd_T38 (rd_L4 x0 x4) x5).f1).size ≤ 9223372036854775807 then ((spec_l6Term.f k (((rd_T38 (rd_L4 x0 x4) x5).f0) ++ ((rd_T38 (rd_L4 x0 x4) x5).f1))).bind fun bt361 => (if bt361.2.2 = true then (if (!(bt361.1.toList == (((rd_T38 (rd_L4 x0 x4) x5).f0).toList)) || (!(bt361.2.1.toList == (((rd_T38 (rd_L4 x0 x4) x5).f1).toList)))) = true then (some (⟨#[]⟩ : ByteArray)) else (if (wrap64 (((x3 ++ (⟨#[32]⟩ : ByteArray)).size : Int) + ((((rd_T38 (rd_L4 x0 x4) x5).f0) ++ ((rd_T38 (rd_L4 x0 x4) x5).f1)).size : Int))) > 200 then (some (⟨#[]⟩ : ByteArray)) else (if (x3 ++ (⟨#[32]⟩ : ByteArray)).size + (((rd_T38 (rd_L4 x0 x4) x5).f0) ++ ((rd_T38 (rd_L4 x0 x4) x5).f1)).size ≤ 9223372036854775807 then (spec_ShowConstraint.l1 k x0 ((x3 ++ (⟨#[32]⟩ : ByteArray)) ++ (((rd_T38 (rd_L4 x0 x4) x5).f0) ++ ((rd_T38 (rd_L4 x0 x4) x5).f1))) x4 (wrap64 (x5 + 1))) else (none)))) else (some (⟨#[]⟩ : ByteArray)))) else (none)) else (none)) else (none)) else (if 0 ≤ x5 then (if ((rd_T38 (rd_L4 x0 x4) x5).f0).size + ((rd_T38 (rd_L4 x0 x4) x5).f1).size ≤ 9223372036854775807 then ((spec_l6Term.f k (((rd_T38 (rd_L4 x0 x4) x5).f0) ++ ((rd_T38 (rd_L4 x0 x4) x5).f1))).bind fun bt371 => (if bt371.2.2 = true then (if (!(bt371.1.toList == (((rd_T38 (rd_L4 x0 x4) x5).f0).toList)) || (!(bt371.2.1.toList == (((rd_T38 (rd_L4 x0 x4) x5).f1).toList)))) = true then (some (⟨#[]⟩ : ByteArray)) else (if (wrap64 ((x3.size : Int) + ((((rd_T38 (rd_L4 x0 x4) x5).f0) ++ ((rd_T38 (rd_L4 x0 x4) x5).f1)).size : Int))) > 200 then (some (⟨#[]⟩ : ByteArray)) else (if x3.size + (((rd_T38 (rd_L4 x0 x4) x5).f0) ++ ((rd_T38 (rd_L4 x0 x4) x5).f1)).size ≤ 9223372036854775807 then (spec_ShowConstraint.l1 k x0 (x3 ++ (((rd_T38 (rd_L4 x0 x4) x5).f0) ++ ((rd_T38 (rd_L4 x0 x4) x5).f1))) x4 (wrap64 (x5 + 1))) else (none)))) else (some (⟨#[]⟩ : ByteArray)))) else (none)) else (none))) else (spec_ShowConstraint.l0 k x0 x3 (wrap64 (x4 + 1)))) else (none)) else (none)
end
def spec_ShowConstraint.f (k : Nat) (l0 : List (List (S38))) : Option (ByteArray) := spec_ShowConstraint.l0 k l0 (⟨#[]⟩ : ByteArray) 0
set_option maxHeartbeats 8000000 in
set_option maxRecDepth 100000 in
theorem spec_ShowConstraint.calls (k : Nat) (A0 : Option Addr) (c0 : Nat) (l0 : List (List (S38))) (r : ByteArray) (w : World) (hr0 : Kd.C (Kd.slice 38 k38) w A0 l0.length l0) (hc0 : l0.length ≤ c0) (h : spec_ShowConstraint.f k l0 = some r) :
    Calls Tryd.prog 14 #[.slice A0 l0.length c0] w fun e w' => e = .returned (.string r) ∧ Below w.heap.size w w' := by
  have hu38 := Tryd.underlying38
  have HR0 := Aside0.mk hr0
  have HC0 := Aside0.mk hc0
  clear hr0 hc0
  have HB := Aside0.mk (Below.refl w.heap.size w)
  have H : (spec_ShowConstraint.l0 k l0 (⟨#[]⟩ : ByteArray) 0) = some r := h
  clear h
  have H' := Aside0.mk H
  clear H
  go_enter Tryd.func14, Tryd.ntmps14
  go_wp2
  repeat (go_quiet (fail); try go_wp2)
  go_loopg [3, 4] k (fun kq v3 v4 w' => ∃ (x3_1 : ByteArray) (x4_1 : Int), v3 = .string x3_1 ∧ v4 = .int .i64 x4_1 ∧ Aside0 (spec_ShowConstraint.l0 kq l0 x3_1 x4_1 = some r) ∧ Aside0 (kq ≤ k) ∧ Aside0 (Below w.heap.size w w'))
  case atStart => exact ⟨((⟨#[]⟩ : ByteArray)), (0), (by first | rfl | (simp; done) | (simp [*]; done)), (by first | rfl | (simp; done) | (simp [*]; done)), H', ⟨Nat.le_refl _⟩, ⟨by repeat (first | (with_reducible first | exact HB.out | apply below_alloc | apply pw_below_drewN | apply below_drew1) | exact HB.out)⟩⟩
  case round =>
    clear H'
    try clear c1
    obtain ⟨x3_1, x4_1, rfl, rfl, HA, HK1, HB⟩ := hrel
    cases gk with
    | zero => exact absurd HA.out (by simp [spec_ShowConstraint.l0])
    | succ k1 =>
      have H := HA.out
      clear HA
      simp only [spec_ShowConstraint.l0] at H
      by_cases c2 : x4_1 < (l0.length : Int)
      · rw [if_pos c2] at H
        have c2b0 : decide (x4_1 < (l0.length : Int)) = true := decide_eq_true c2
        clear c2
        have HC3 := Aside0.mk H
        clear H
        go_upto_if 18 with (fail)
        repeat (go_quiet (fail); go_upto_if 18 with (fail))
        go_cut [3] (fun v3 wc => ∃ (kq : Nat) (x3_2 : ByteArray), v3 = .string x3_2 ∧ Aside0 (spec_ShowConstraint.j1 kq l0 x3_2 x4_1 = some r) ∧ Aside0 (kq ≤ k1) ∧ Aside0 (Below w.heap.size w wc))
        case first =>
          have H := HC3.out
          clear HC3
          by_cases c4 : x4_1 > 0
          · rw [if_pos c4] at H
            have c4b0 : decide (0 < x4_1) = true := decide_eq_true c4
            clear c4
            (first | rw [c4b0] | (simp only [i64_w, i32_w]; rw [c4b0]) | skip)
            by_cases c5 : x3_1.size + 4 ≤ 9223372036854775807
            · rw [if_pos c5] at H
              have c5b0 := eq_true c5
              have c5b1 : decide (x3_1.size + 4 ≤ 9223372036854775807) = true := decide_eq_true c5
              try have c5b2 : (9223372036854775807 < x3_1.size + 4) = False := eq_false (Nat.not_lt.2 c5)
              have H' := Aside0.mk H
              clear H
              go_wp2
              repeat (go_quiet (fail); try go_wp2)
              go_meet
              case rel => exact ⟨_, (x3_1 ++ (⟨#[32, 124, 124, 32]⟩ : ByteArray)), (by first | rfl | (simp; done) | (simp [*]; done)), H', ⟨by have := HK1.out; first | omega | exact Nat.le_refl _⟩, ⟨by repeat (first | (with_reducible first | exact HB.out | apply below_alloc | apply pw_below_drewN | apply below_drew1) | exact HB.out)⟩⟩
            · rw [if_neg c5] at H
              exact absurd H (by simp)
          · rw [if_neg c4] at H
            have c4b0 : decide (0 < x4_1) = false := decide_eq_false c4
            clear c4
            (first | rw [c4b0] | (simp only [i64_w, i32_w]; rw [c4b0]) | skip)
            have H' := Aside0.mk H
            clear H
            go_wp2
            repeat (go_quiet (fail); try go_wp2)
            go_meet
            case rel => exact ⟨_, (x3_1), (by first | rfl | (simp; done) | (simp [*]; done)), H', ⟨by have := HK1.out; first | omega | exact Nat.le_refl _⟩, ⟨by repeat (first | (with_reducible first | exact HB.out | apply below_alloc | apply pw_below_drewN | apply below_drew1) | exact HB.out)⟩⟩
        case rest =>
          clear HC3
          try clear c1
          try clear c2
          try clear c2b0
          try clear p2
          try clear c4
          try clear c4b0
          try clear c5
          try clear c5b0
          try clear c5b1
          try clear c5b2
          obtain ⟨kq, x3_2, rfl, HA, HJ2, HB⟩ := hcut
          cases kq with
          | zero => exact absurd HA.out (by simp [spec_ShowConstraint.j1])
          | succ kj2 =>
            have H := HA.out
            clear HA
            simp only [spec_ShowConstraint.j1] at H
            have H' := Aside0.mk H
            clear H
            go_wp2
            repeat (go_quiet (fail); try go_wp2)
            go_loopg [3, 5] kj2 (fun kq v3 v5 w' => ∃ (x3_3 : ByteArray) (x5_3 : Int), v3 = .string x3_3 ∧ v5 = .int .i64 x5_3 ∧ Aside0 (spec_ShowConstraint.l1 kq l0 x3_3 x4_1 x5_3 = some r) ∧ Aside0 (kq ≤ kj2) ∧ Aside0 (Below w.heap.size w w'))
            case atStart => exact ⟨(x3_2), (0), (by first | rfl | (simp; done) | (simp [*]; done)), (by first | rfl | (simp; done) | (simp [*]; done)), H', ⟨Nat.le_refl _⟩, ⟨by repeat (first | (with_reducible first | exact HB.out | apply below_alloc | apply pw_below_drewN | apply below_drew1) | exact HB.out)⟩⟩
            case round =>
              clear H'
              try clear c1
              try clear c2
              try clear c2b0
              try clear p2
              try clear c4
              try clear c4b0
              try clear c5
              try clear c5b0
              try clear c5b1
              try clear c5b2
              try clear p2
              obtain ⟨x3_3, x5_3, rfl, rfl, HA, HK3, HB⟩ := hrel
              cases gk with
              | zero => exact absurd HA.out (by simp [spec_ShowConstraint.l1])
              | succ k3 =>
                have H := HA.out
                clear HA
                simp only [spec_ShowConstraint.l1] at H
                by_cases c6 : 0 ≤ x4_1
                · rw [if_pos c6] at H
                  have c6b0 : decide (0 ≤ x4_1) = true := decide_eq_true c6
                  clear c6
                  by_cases c7 : x4_1 < (l0.length : Int)
                  · rw [if_pos c7] at H
                    have c7b0 : decide (x4_1 < (l0.length : Int)) = true := decide_eq_true c7
                    clear c7
                    by_cases c8 : x5_3 < ((rd_L4 l0 x4_1).length : Int)
                    · rw [if_pos c8] at H
                      have c8b0 : decide (x5_3 < ((rd_L4 l0 x4_1).length : Int)) = true := decide_eq_true c8
                      clear c8
                      by_cases c9 : x5_3 > 0
                      · rw [if_pos c9] at H
                        have c9b0 : decide (0 < x5_3) = true := decide_eq_true c9
                        clear c9
                        by_cases c10 : x3_3.size + 1 ≤ 9223372036854775807
                        · rw [if_pos c10] at H
                          have c10b0 := eq_true c10
                          have c10b1 : decide (x3_3.size + 1 ≤ 9223372036854775807) = true := decide_eq_true c10
                          try have c10b2 : (9223372036854775807 < x3_3.size + 1) = False := eq_false (Nat.not_lt.2 c10)
                          by_cases c11 : 0 ≤ x5_3
                          · rw [if_pos c11] at H
                            have c11b0 : decide (0 ≤ x5_3) = true := decide_eq_true c11
                            clear c11
                            by_cases c12 : ((rd_T38 (rd_L4 l0 x4_1) x5_3).f0).size + ((rd_T38 (rd_L4 l0 x4_1) x5_3).f1).size ≤ 9223372036854775807
                            · rw [if_pos c12] at H
                              have c12b0 := eq_true c12
                              have c12b1 : decide (((rd_T38 (rd_L4 l0 x4_1) x5_3).f0).size + ((rd_T38 (rd_L4 l0 x4_1) x5_3).f1).size ≤ 9223372036854775807) = true := decide_eq_true c12
                              try have c12b2 : (9223372036854775807 < ((rd_T38 (rd_L4 l0 x4_1) x5_3).f0).size + ((rd_T38 (rd_L4 l0 x4_1) x5_3).f1).size) = False := eq_false (Nat.not_lt.2 c12)
                              replace H := Option.bind_eq_some_iff.mp H
                              obtain ⟨⟨t361, t362, t363⟩, A130, H⟩ := H
                              replace H : (if t363 = true then (if (!(t361.toList == (((rd_T38 (rd_L4 l0 x4_1) x5_3).f0).toList)) || (!(t362.toList == (((rd_T38 (rd_L4 l0 x4_1) x5_3).f1).toList)))) = true then (some (⟨#[]⟩ : ByteArray)) else (if (wrap64 (((x3_3 ++ (⟨#[32]⟩ : ByteArray)).size : Int) + ((((rd_T38 (rd_L4 l0 x4_1) x5_3).f0) ++ ((rd_T38 (rd_L4 l0 x4_1) x5_3).f1)).size : Int))) > 200 then (some (⟨#[]⟩ : ByteArray)) else (if (x3_3 ++ (⟨#[32]⟩ : ByteArray)).size + (((rd_T38 (rd_L4 l0 x4_1) x5_3).f0) ++ ((rd_T38 (rd_L4 l0 x4_1) x5_3).f1)).size ≤ 9223372036854775807 then (spec_ShowConstraint.l1 k3 l0 ((x3_3 ++ (⟨#[32]⟩ : ByteArray)) ++ (((rd_T38 (rd_L4 l0 x4_1) x5_3).f0) ++ ((rd_T38 (rd_L4 l0 x4_1) x5_3).f1))) x4_1 (wrap64 (x5_3 + 1))) else (none)))) else (some (⟨#[]⟩ : ByteArray))) = some r := H
                              have A13 := Aside0.mk A130
                              clear A130
                              by_cases c14 : t363 = true
                              · subst c14
                                have H1 : (if (!(t361.toList == (((rd_T38 (rd_L4 l0 x4_1) x5_3).f0).toList)) || (!(t362.toList == (((rd_T38 (rd_L4 l0 x4_1) x5_3).f1).toList)))) = true then (some (⟨#[]⟩ : ByteArray)) else (if (wrap64 (((x3_3 ++ (⟨#[32]⟩ : ByteArray)).size : Int) + ((((rd_T38 (rd_L4 l0 x4_1) x5_3).f0) ++ ((rd_T38 (rd_L4 l0 x4_1) x5_3).f1)).size : Int))) > 200 then (some (⟨#[]⟩ : ByteArray)) else (if (x3_3 ++ (⟨#[32]⟩ : ByteArray)).size + (((rd_T38 (rd_L4 l0 x4_1) x5_3).f0) ++ ((rd_T38 (rd_L4 l0 x4_1) x5_3).f1)).size ≤ 9223372036854775807 then (spec_ShowConstraint.l1 k3 l0 ((x3_3 ++ (⟨#[32]⟩ : ByteArray)) ++ (((rd_T38 (rd_L4 l0 x4_1) x5_3).f0) ++ ((rd_T38 (rd_L4 l0 x4_1) x5_3).f1))) x4_1 (wrap64 (x5_3 + 1))) else (none)))) = some r := by rw [if_pos rfl] at H; exact H
                                clear H
                                have H := H1
                                clear H1
                                by_cases c15 : (!(t361.toList == (((rd_T38 (rd_L4 l0 x4_1) x5_3).f0).toList)) || (!(t362.toList == (((rd_T38 (rd_L4 l0 x4_1) x5_3).f1).toList)))) = true
                                · rw [if_pos c15] at H
                                  have c15b0 : (!(t361.toList == (((rd_T38 (rd_L4 l0 x4_1) x5_3).f0).toList)) || (!(t362.toList == (((rd_T38 (rd_L4 l0 x4_1) x5_3).f1).toList)))) = true := c15
                                  clear c15
                                  obtain rfl := Option.some.inj H
                                  have p356 : 0 ≤ (x4_1 : Int) := of_decide_eq_true (by first | (with_reducible assumption) | assumption)
                                  have q356 : x4_1 < (l0.length : Int) := of_decide_eq_true (by first | (with_reducible assumption) | assumption)
                                  obtain ⟨ad356, A356_0, c356_0, e356, hx356_0, hl356_0, hi356_0⟩ := at_L4 HR0.out x4_1 p356 q356
                                  cases e356
                                  replace hx356_0 := (HB.out.cell (World.block_lt_of_cell? w _ hx356_0)).trans hx356_0
                                  have HR356_0 := Aside0.mk hi356_0
                                  have HC356_0 := Aside0.mk hl356_0
                                  clear hi356_0 hl356_0
                                  replace p356 := eq_true p356
                                  replace q356 := eq_true q356
                                  have p357 : 0 ≤ (x4_1 : Int) := of_decide_eq_true (by first | (with_reducible assumption) | assumption)
                                  have q357 : x4_1 < (l0.length : Int) := of_decide_eq_true (by first | (with_reducible assumption) | assumption)
                                  obtain ⟨ad357, A357_0, c357_0, e357, hx357_0, hl357_0, hi357_0⟩ := at_L4 HR0.out x4_1 p357 q357
                                  obtain rfl : ad356 = ad357 := (by injection e357)
                                  replace hx357_0 := (HB.out.cell (World.block_lt_of_cell? w _ hx357_0)).trans hx357_0
                                  have HR357_0 := Aside0.mk hi357_0
                                  have HC357_0 := Aside0.mk hl357_0
                                  clear hi357_0 hl357_0
                                  replace p357 := eq_true p357
                                  replace q357 := eq_true q357
                                  have ea_ := Option.some.inj (hx356_0.symm.trans hx357_0)
                                  injection ea_ with ea_ en_ ec_
                                  subst ea_
                                  subst ec_
                                  clear en_
                                  have p358 : 0 ≤ (x5_3 : Int) := of_decide_eq_true (by first | (with_reducible assumption) | assumption)
                                  have q358 : x5_3 < ((rd_L4 l0 x4_1).length : Int) := of_decide_eq_true (by first | (with_reducible assumption) | assumption)
                                  obtain ⟨ad358, e358, hx358_0, hx358_1⟩ := at_T38 HR357_0.out x5_3 p358 q358
                                  cases e358
                                  replace hx358_0 := (HB.out.cell (World.block_lt_of_cell? w _ hx358_0)).trans hx358_0
                                  replace hx358_1 := (HB.out.cell (World.block_lt_of_cell? w _ hx358_1)).trans hx358_1
                                  replace p358 := eq_true p358
                                  replace q358 := eq_true q358
                                  have p359 : 0 ≤ (x4_1 : Int) := of_decide_eq_true (by first | (with_reducible assumption) | assumption)
                                  have q359 : x4_1 < (l0.length : Int) := of_decide_eq_true (by first | (with_reducible assumption) | assumption)
                                  obtain ⟨ad359, A359_0, c359_0, e359, hx359_0, hl359_0, hi359_0⟩ := at_L4 HR0.out x4_1 p359 q359
                                  obtain rfl : ad356 = ad359 := (by injection e359)
                                  replace hx359_0 := (HB.out.cell (World.block_lt_of_cell? w _ hx359_0)).trans hx359_0
                                  have HR359_0 := Aside0.mk hi359_0
                                  have HC359_0 := Aside0.mk hl359_0
                                  clear hi359_0 hl359_0
                                  replace p359 := eq_true p359
                                  replace q359 := eq_true q359
                                  have ea_ := Option.some.inj (hx356_0.symm.trans hx359_0)
                                  injection ea_ with ea_ en_ ec_
                                  subst ea_
                                  subst ec_
                                  clear en_
                                  have p360 : 0 ≤ (x5_3 : Int) := of_decide_eq_true (by first | (with_reducible assumption) | assumption)
                                  have q360 : x5_3 < ((rd_L4 l0 x4_1).length : Int) := of_decide_eq_true (by first | (with_reducible assumption) | assumption)
                                  obtain ⟨ad360, e360, hx360_0, hx360_1⟩ := at_T38 HR359_0.out x5_3 p360 q360
                                  cases e360
                                  replace hx360_0 := (HB.out.cell (World.block_lt_of_cell? w _ hx360_0)).trans hx360_0
                                  replace hx360_1 := (HB.out.cell (World.block_lt_of_cell? w _ hx360_1)).trans hx360_1
                                  replace p360 := eq_true p360
                                  replace q360 := eq_true q360
                                  go_wp2_with (first | (go_at_call 19; (with_reducible refine (spec_l6Term.calls k3 (((rd_T38 (rd_L4 l0 x4_1) x5_3).f0) ++ ((rd_T38 (rd_L4 l0 x4_1) x5_3).f1)) t361 t362 true _ A13.out).mono ?_); rintro e w16 ⟨rfl, hb⟩; have n0_ := Aside0.mk (below_step (by repeat (first | (with_reducible first | exact HB.out | apply below_alloc | apply pw_below_drewN | apply below_drew1) | exact HB.out)) hb); clear HB; have HB := n0_; clear n0_; (try clear hb); (try clear hb2); (try clear hk); (try clear hi)) | ((with_reducible refine gate_dst (N := 7) rfl ?_); (try (refine gate_guard (by rfl) ?_; dsimp only)); refine box_event ?hg (N := 7) ?hd (cs := #[.string (⟨#[]⟩ : ByteArray), .string (⟨#[]⟩ : ByteArray)]) (t := 38) ?hr ?_; (case hd => rfl); (case hg => rfl); (case hr => first | (go_simp; done) | (go_simp; rfl)); intro gb364 hg w17 hbox hb; have n0_ := Aside0.mk (below_step (by repeat (first | (with_reducible first | exact HB.out | apply below_alloc | apply pw_below_drewN | apply below_drew1) | exact HB.out)) hb); have n1_ := Aside0.mk (hbox); have n2_ := Aside0.mk ((by rw [hg]; exact (below_size (by repeat (first | (with_reducible first | exact HB.out | apply below_alloc | apply pw_below_drewN | apply below_drew1) | exact HB.out))) : w.heap.size ≤ gb364)); have n3_ := Aside0.mk ((by rw [hg]; exact (below_size (by repeat (first | (with_reducible first | exact HB.out | apply below_alloc | apply pw_below_drewN | apply below_drew1) | exact HB.out))) : w.heap.size ≤ gb364)); clear HB; have HB := n0_; have BK364 := n1_; have GW364 := n2_; have GE364 := n3_; clear n0_ n1_ n2_ n3_; clear hb hbox hg; have hcz18_0 : w17.cell? ⟨gb364, 0, none⟩ = some (.string (⟨#[]⟩ : ByteArray)) := (blk_cell BK364.out 0).trans rfl; have hcz18_1 : w17.cell? ⟨gb364, 1, none⟩ = some (.string (⟨#[]⟩ : ByteArray)) := (blk_cell BK364.out 1).trans rfl; have hfz18_0 := blk_frozen BK364.out 0; have hfz18_1 := blk_frozen BK364.out 1; have p365 : 0 ≤ (x4_1 : Int) := of_decide_eq_true (by first | (with_reducible assumption) | assumption); have q365 : x4_1 < (l0.length : Int) := of_decide_eq_true (by first | (with_reducible assumption) | assumption); obtain ⟨ad365, A365_0, c365_0, e365, hx365_0, hl365_0, hi365_0⟩ := at_L4 HR0.out x4_1 p365 q365; obtain rfl : ad356 = ad365 := (by injection e365); have hn365_0 : ad356.block ≠ gb364 := Nat.ne_of_lt (Nat.lt_of_lt_of_le (by have := World.block_lt_of_cell? _ _ hx365_0; first | rwa [add_block] at this | exact this) GW364.out); have hn365_1 : ad356.block ≠ gb364 := Nat.ne_of_lt (Nat.lt_of_lt_of_le (by have := World.block_lt_of_cell? _ _ hx365_0; first | rwa [add_block] at this | exact this) GW364.out); replace hx365_0 := (HB.out.cell (World.block_lt_of_cell? w _ hx365_0)).trans hx365_0; have HR365_0 := Aside0.mk hi365_0; have HC365_0 := Aside0.mk hl365_0; clear hi365_0 hl365_0; replace hx365_0 := (cell_far (p := ⟨gb364, 0, none⟩) (by first | (rw [add_block]; exact hn365_0) | (show (Addr.add _ _).block ≠ _; rw [add_block]; exact hn365_0) | exact hn365_0) (.string t361)).trans hx365_0; replace hx365_0 := (cell_far (p := ⟨gb364, 1, none⟩) (by first | (rw [add_block]; exact hn365_1) | (show (Addr.add _ _).block ≠ _; rw [add_block]; exact hn365_1) | exact hn365_1) (.string t362)).trans hx365_0; (try have hy365_0 := fun (n_ : Nat) => (show ((((w17.drewN n_).setCell ⟨gb364, 0, none⟩ (.string t361)).setCell ⟨gb364, 1, none⟩ (.string t362))).cell? _ = some _ from hx365_0)); clear hn365_0; clear hn365_1; replace p365 := eq_true p365; replace q365 := eq_true q365; have p366 : 0 ≤ (x5_3 : Int) := of_decide_eq_true (by first | (with_reducible assumption) | assumption); have q366 : x5_3 < ((rd_L4 l0 x4_1).length : Int) := of_decide_eq_true (by first | (with_reducible assumption) | assumption); obtain ⟨ad366, e366, hx366_0, hx366_1⟩ := at_T38 HR365_0.out x5_3 p366 q366; cases e366; have hn366_0 : ad366.block ≠ gb364 := Nat.ne_of_lt (Nat.lt_of_lt_of_le (by have := World.block_lt_of_cell? _ _ hx366_0; first | rwa [add_block] at this | exact this) GW364.out); have hn366_1 : ad366.block ≠ gb364 := Nat.ne_of_lt (Nat.lt_of_lt_of_le (by have := World.block_lt_of_cell? _ _ hx366_0; first | rwa [add_block] at this | exact this) GW364.out); replace hx366_0 := (HB.out.cell (World.block_lt_of_cell? w _ hx366_0)).trans hx366_0; replace hx366_1 := (HB.out.cell (World.block_lt_of_cell? w _ hx366_1)).trans hx366_1; replace hx366_0 := (cell_far (p := ⟨gb364, 0, none⟩) (by first | (rw [add_block]; exact hn366_0) | (show (Addr.add _ _).block ≠ _; rw [add_block]; exact hn366_0) | exact hn366_0) (.string t361)).trans hx366_0; replace hx366_1 := (cell_far (p := ⟨gb364, 0, none⟩) (by first | (rw [add_block]; exact hn366_0) | (show (Addr.add _ _).block ≠ _; rw [add_block]; exact hn366_0) | exact hn366_0) (.string t361)).trans hx366_1; replace hx366_0 := (cell_far (p := ⟨gb364, 1, none⟩) (by first | (rw [add_block]; exact hn366_1) | (show (Addr.add _ _).block ≠ _; rw [add_block]; exact hn366_1) | exact hn366_1) (.string t362)).trans hx366_0; replace hx366_1 := (cell_far (p := ⟨gb364, 1, none⟩) (by first | (rw [add_block]; exact hn366_1) | (show (Addr.add _ _).block ≠ _; rw [add_block]; exact hn366_1) | exact hn366_1) (.string t362)).trans hx366_1; (try have hy366_0 := fun (n_ : Nat) => (show ((((w17.drewN n_).setCell ⟨gb364, 0, none⟩ (.string t361)).setCell ⟨gb364, 1, none⟩ (.string t362))).cell? _ = some _ from hx366_0)); (try have hy366_1 := fun (n_ : Nat) => (show ((((w17.drewN n_).setCell ⟨gb364, 0, none⟩ (.string t361)).setCell ⟨gb364, 1, none⟩ (.string t362))).cell? _ = some _ from hx366_1)); clear hn366_0; clear hn366_1; replace p366 := eq_true p366; replace q366 := eq_true q366))
                                  repeat (go_quiet (first | (go_at_call 19; (with_reducible refine (spec_l6Term.calls k3 (((rd_T38 (rd_L4 l0 x4_1) x5_3).f0) ++ ((rd_T38 (rd_L4 l0 x4_1) x5_3).f1)) t361 t362 true _ A13.out).mono ?_); rintro e w16 ⟨rfl, hb⟩; have n0_ := Aside0.mk (below_step (by repeat (first | (with_reducible first | exact HB.out | apply below_alloc | apply pw_below_drewN | apply below_drew1) | exact HB.out)) hb); clear HB; have HB := n0_; clear n0_; (try clear hb); (try clear hb2); (try clear hk); (try clear hi); (try clear A13)) | ((with_reducible refine gate_dst (N := 7) rfl ?_); (try (refine gate_guard (by rfl) ?_; dsimp only)); refine box_event ?hg (N := 7) ?hd (cs := #[.string (⟨#[]⟩ : ByteArray), .string (⟨#[]⟩ : ByteArray)]) (t := 38) ?hr ?_; (case hd => rfl); (case hg => rfl); (case hr => first | (go_simp; done) | (go_simp; rfl)); intro gb364 hg w17 hbox hb; have n0_ := Aside0.mk (below_step (by repeat (first | (with_reducible first | exact HB.out | apply below_alloc | apply pw_below_drewN | apply below_drew1) | exact HB.out)) hb); have n1_ := Aside0.mk (hbox); have n2_ := Aside0.mk ((by rw [hg]; exact (below_size (by repeat (first | (with_reducible first | exact HB.out | apply below_alloc | apply pw_below_drewN | apply below_drew1) | exact HB.out))) : w.heap.size ≤ gb364)); have n3_ := Aside0.mk ((by rw [hg]; exact (below_size (by repeat (first | (with_reducible first | exact HB.out | apply below_alloc | apply pw_below_drewN | apply below_drew1) | exact HB.out))) : w.heap.size ≤ gb364)); clear HB; have HB := n0_; have BK364 := n1_; have GW364 := n2_; have GE364 := n3_; clear n0_ n1_ n2_ n3_; clear hb hbox hg; have hcz18_0 : w17.cell? ⟨gb364, 0, none⟩ = some (.string (⟨#[]⟩ : ByteArray)) := (blk_cell BK364.out 0).trans rfl; have hcz18_1 : w17.cell? ⟨gb364, 1, none⟩ = some (.string (⟨#[]⟩ : ByteArray)) := (blk_cell BK364.out 1).trans rfl; have hfz18_0 := blk_frozen BK364.out 0; have hfz18_1 := blk_frozen BK364.out 1; have p365 : 0 ≤ (x4_1 : Int) := of_decide_eq_true (by first | (with_reducible assumption) | assumption); have q365 : x4_1 < (l0.length : Int) := of_decide_eq_true (by first | (with_reducible assumption) | assumption); obtain ⟨ad365, A365_0, c365_0, e365, hx365_0, hl365_0, hi365_0⟩ := at_L4 HR0.out x4_1 p365 q365; obtain rfl : ad356 = ad365 := (by injection e365); have hn365_0 : ad356.block ≠ gb364 := Nat.ne_of_lt (Nat.lt_of_lt_of_le (by have := World.block_lt_of_cell? _ _ hx365_0; first | rwa [add_block] at this | exact this) GW364.out); have hn365_1 : ad356.block ≠ gb364 := Nat.ne_of_lt (Nat.lt_of_lt_of_le (by have := World.block_lt_of_cell? _ _ hx365_0; first | rwa [add_block] at this | exact this) GW364.out); replace hx365_0 := (HB.out.cell (World.block_lt_of_cell? w _ hx365_0)).trans hx365_0; have HR365_0 := Aside0.mk hi365_0; have HC365_0 := Aside0.mk hl365_0; clear hi365_0 hl365_0; replace hx365_0 := (cell_far (p := ⟨gb364, 0, none⟩) (by first | (rw [add_block]; exact hn365_0) | (show (Addr.add _ _).block ≠ _; rw [add_block]; exact hn365_0) | exact hn365_0) (.string t361)).trans hx365_0; replace hx365_0 := (cell_far (p := ⟨gb364, 1, none⟩) (by first | (rw [add_block]; exact hn365_1) | (show (Addr.add _ _).block ≠ _; rw [add_block]; exact hn365_1) | exact hn365_1) (.string t362)).trans hx365_0; (try have hy365_0 := fun (n_ : Nat) => (show ((((w17.drewN n_).setCell ⟨gb364, 0, none⟩ (.string t361)).setCell ⟨gb364, 1, none⟩ (.string t362))).cell? _ = some _ from hx365_0)); clear hn365_0; clear hn365_1; replace p365 := eq_true p365; replace q365 := eq_true q365; have p366 : 0 ≤ (x5_3 : Int) := of_decide_eq_true (by first | (with_reducible assumption) | assumption); have q366 : x5_3 < ((rd_L4 l0 x4_1).length : Int) := of_decide_eq_true (by first | (with_reducible assumption) | assumption); obtain ⟨ad366, e366, hx366_0, hx366_1⟩ := at_T38 HR365_0.out x5_3 p366 q366; cases e366; have hn366_0 : ad366.block ≠ gb364 := Nat.ne_of_lt (Nat.lt_of_lt_of_le (by have := World.block_lt_of_cell? _ _ hx366_0; first | rwa [add_block] at this | exact this) GW364.out); have hn366_1 : ad366.block ≠ gb364 := Nat.ne_of_lt (Nat.lt_of_lt_of_le (by have := World.block_lt_of_cell? _ _ hx366_0; first | rwa [add_block] at this | exact this) GW364.out); replace hx366_0 := (HB.out.cell (World.block_lt_of_cell? w _ hx366_0)).trans hx366_0; replace hx366_1 := (HB.out.cell (World.block_lt_of_cell? w _ hx366_1)).trans hx366_1; replace hx366_0 := (cell_far (p := ⟨gb364, 0, none⟩) (by first | (rw [add_block]; exact hn366_0) | (show (Addr.add _ _).block ≠ _; rw [add_block]; exact hn366_0) | exact hn366_0) (.string t361)).trans hx366_0; replace hx366_1 := (cell_far (p := ⟨gb364, 0, none⟩) (by first | (rw [add_block]; exact hn366_0) | (show (Addr.add _ _).block ≠ _; rw [add_block]; exact hn366_0) | exact hn366_0) (.string t361)).trans hx366_1; replace hx366_0 := (cell_far (p := ⟨gb364, 1, none⟩) (by first | (rw [add_block]; exact hn366_1) | (show (Addr.add _ _).block ≠ _; rw [add_block]; exact hn366_1) | exact hn366_1) (.string t362)).trans hx366_0; replace hx366_1 := (cell_far (p := ⟨gb364, 1, none⟩) (by first | (rw [add_block]; exact hn366_1) | (show (Addr.add _ _).block ≠ _; rw [add_block]; exact hn366_1) | exact hn366_1) (.string t362)).trans hx366_1; (try have hy366_0 := fun (n_ : Nat) => (show ((((w17.drewN n_).setCell ⟨gb364, 0, none⟩ (.string t361)).setCell ⟨gb364, 1, none⟩ (.string t362))).cell? _ = some _ from hx366_0)); (try have hy366_1 := fun (n_ : Nat) => (show ((((w17.drewN n_).setCell ⟨gb364, 0, none⟩ (.string t361)).setCell ⟨gb364, 1, none⟩ (.string t362))).cell? _ = some _ from hx366_1)); clear hn366_0; clear hn366_1; replace p366 := eq_true p366; replace q366 := eq_true q366)); try go_wp2_with (first | (go_at_call 19; (with_reducible refine (spec_l6Term.calls k3 (((rd_T38 (rd_L4 l0 x4_1) x5_3).f0) ++ ((rd_T38 (rd_L4 l0 x4_1) x5_3).f1)) t361 t362 true _ A13.out).mono ?_); rintro e w16 ⟨rfl, hb⟩; have n0_ := Aside0.mk (below_step (by repeat (first | (with_reducible first | exact HB.out | apply below_alloc | apply pw_below_drewN | apply below_drew1) | exact HB.out)) hb); clear HB; have HB := n0_; clear n0_; (try clear hb); (try clear hb2); (try clear hk); (try clear hi); (try clear A13)) | ((with_reducible refine gate_dst (N := 7) rfl ?_); (try (refine gate_guard (by rfl) ?_; dsimp only)); refine box_event ?hg (N := 7) ?hd (cs := #[.string (⟨#[]⟩ : ByteArray), .string (⟨#[]⟩ : ByteArray)]) (t := 38) ?hr ?_; (case hd => rfl); (case hg => rfl); (case hr => first | (go_simp; done) | (go_simp; rfl)); intro gb364 hg w17 hbox hb; have n0_ := Aside0.mk (below_step (by repeat (first | (with_reducible first | exact HB.out | apply below_alloc | apply pw_below_drewN | apply below_drew1) | exact HB.out)) hb); have n1_ := Aside0.mk (hbox); have n2_ := Aside0.mk ((by rw [hg]; exact (below_size (by repeat (first | (with_reducible first | exact HB.out | apply below_alloc | apply pw_below_drewN | apply below_drew1) | exact HB.out))) : w.heap.size ≤ gb364)); have n3_ := Aside0.mk ((by rw [hg]; exact (below_size (by repeat (first | (with_reducible first | exact HB.out | apply below_alloc | apply pw_below_drewN | apply below_drew1) | exact HB.out))) : w.heap.size ≤ gb364)); clear HB; have HB := n0_; have BK364 := n1_; have GW364 := n2_; have GE364 := n3_; clear n0_ n1_ n2_ n3_; clear hb hbox hg; have hcz18_0 : w17.cell? ⟨gb364, 0, none⟩ = some (.string (⟨#[]⟩ : ByteArray)) := (blk_cell BK364.out 0).trans rfl; have hcz18_1 : w17.cell? ⟨gb364, 1, none⟩ = some (.string (⟨#[]⟩ : ByteArray)) := (blk_cell BK364.out 1).trans rfl; have hfz18_0 := blk_frozen BK364.out 0; have hfz18_1 := blk_frozen BK364.out 1; have p365 : 0 ≤ (x4_1 : Int) := of_decide_eq_true (by first | (with_reducible assumption) | assumption); have q365 : x4_1 < (l0.length : Int) := of_decide_eq_true (by first | (with_reducible assumption) | assumption); obtain ⟨ad365, A365_0, c365_0, e365, hx365_0, hl365_0, hi365_0⟩ := at_L4 HR0.out x4_1 p365 q365; obtain rfl : ad356 = ad365 := (by injection e365); have hn365_0 : ad356.block ≠ gb364 := Nat.ne_of_lt (Nat.lt_of_lt_of_le (by have := World.block_lt_of_cell? _ _ hx365_0; first | rwa [add_block] at this | exact this) GW364.out); have hn365_1 : ad356.block ≠ gb364 := Nat.ne_of_lt (Nat.lt_of_lt_of_le (by have := World.block_lt_of_cell? _ _ hx365_0; first | rwa [add_block] at this | exact this) GW364.out); replace hx365_0 := (HB.out.cell (World.block_lt_of_cell? w _ hx365_0)).trans hx365_0; have HR365_0 := Aside0.mk hi365_0; have HC365_0 := Aside0.mk hl365_0; clear hi365_0 hl365_0; replace hx365_0 := (cell_far (p := ⟨gb364, 0, none⟩) (by first | (rw [add_block]; exact hn365_0) | (show (Addr.add _ _).block ≠ _; rw [add_block]; exact hn365_0) | exact hn365_0) (.string t361)).trans hx365_0; replace hx365_0 := (cell_far (p := ⟨gb364, 1, none⟩) (by first | (rw [add_block]; exact hn365_1) | (show (Addr.add _ _).block ≠ _; rw [add_block]; exact hn365_1) | exact hn365_1) (.string t362)).trans hx365_0; (try have hy365_0 := fun (n_ : Nat) => (show ((((w17.drewN n_).setCell ⟨gb364, 0, none⟩ (.string t361)).setCell ⟨gb364, 1, none⟩ (.string t362))).cell? _ = some _ from hx365_0)); clear hn365_0; clear hn365_1; replace p365 := eq_true p365; replace q365 := eq_true q365; have p366 : 0 ≤ (x5_3 : Int) := of_decide_eq_true (by first | (with_reducible assumption) | assumption); have q366 : x5_3 < ((rd_L4 l0 x4_1).length : Int) := of_decide_eq_true (by first | (with_reducible assumption) | assumption); obtain ⟨ad366, e366, hx366_0, hx366_1⟩ := at_T38 HR365_0.out x5_3 p366 q366; cases e366; have hn366_0 : ad366.block ≠ gb364 := Nat.ne_of_lt (Nat.lt_of_lt_of_le (by have := World.block_lt_of_cell? _ _ hx366_0; first | rwa [add_block] at this | exact this) GW364.out); have hn366_1 : ad366.block ≠ gb364 := Nat.ne_of_lt (Nat.lt_of_lt_of_le (by have := World.block_lt_of_cell? _ _ hx366_0; first | rwa [add_block] at this | exact this) GW364.out); replace hx366_0 := (HB.out.cell (World.block_lt_of_cell? w _ hx366_0)).trans hx366_0; replace hx366_1 := (HB.out.cell (World.block_lt_of_cell? w _ hx366_1)).trans hx366_1; replace hx366_0 := (cell_far (p := ⟨gb364, 0, none⟩) (by first | (rw [add_block]; exact hn366_0) | (show (Addr.add _ _).block ≠ _; rw [add_block]; exact hn366_0) | exact hn366_0) (.string t361)).trans hx366_0; replace hx366_1 := (cell_far (p := ⟨gb364, 0, none⟩) (by first | (rw [add_block]; exact hn366_0) | (show (Addr.add _ _).block ≠ _; rw [add_block]; exact hn366_0) | exact hn366_0) (.string t361)).trans hx366_1; replace hx366_0 := (cell_far (p := ⟨gb364, 1, none⟩) (by first | (rw [add_block]; exact hn366_1) | (show (Addr.add _ _).block ≠ _; rw [add_block]; exact hn366_1) | exact hn366_1) (.string t362)).trans hx366_0; replace hx366_1 := (cell_far (p := ⟨gb364, 1, none⟩) (by first | (rw [add_block]; exact hn366_1) | (show (Addr.add _ _).block ≠ _; rw [add_block]; exact hn366_1) | exact hn366_1) (.string t362)).trans hx366_1; (try have hy366_0 := fun (n_ : Nat) => (show ((((w17.drewN n_).setCell ⟨gb364, 0, none⟩ (.string t361)).setCell ⟨gb364, 1, none⟩ (.string t362))).cell? _ = some _ from hx366_0)); (try have hy366_1 := fun (n_ : Nat) => (show ((((w17.drewN n_).setCell ⟨gb364, 0, none⟩ (.string t361)).setCell ⟨gb364, 1, none⟩ (.string t362))).cell? _ = some _ from hx366_1)); clear hn366_0; clear hn366_1; replace p366 := eq_true p366; replace q366 := eq_true q366)))
                                  go_ret
                                  exact ⟨by first | rfl | (simp [errW_none, errW_some] <;> rfl) | (simp [*, errW_none, errW_some] <;> rfl), by repeat (first | (with_reducible first | exact HB.out | apply below_alloc | apply pw_below_drewN | apply below_drew1 | refine below_set ?_ GE364.out) | exact HB.out)⟩
                                · rw [if_neg c15] at H
                                  have c15b0 : (!(t361.toList == (((rd_T38 (rd_L4 l0 x4_1) x5_3).f0).toList)) || (!(t362.toList == (((rd_T38 (rd_L4 l0 x4_1) x5_3).f1).toList)))) = false := by simpa using c15
                                  clear c15
                                  by_cases c19 : (wrap64 (((x3_3 ++ (⟨#[32]⟩ : ByteArray)).size : Int) + ((((rd_T38 (rd_L4 l0 x4_1) x5_3).f0) ++ ((rd_T38 (rd_L4 l0 x4_1) x5_3).f1)).size : Int))) > 200
                                  · rw [if_pos c19] at H
                                    have c19b0 : decide (200 < (wrap64 (((x3_3 ++ (⟨#[32]⟩ : ByteArray)).size : Int) + ((((rd_T38 (rd_L4 l0 x4_1) x5_3).f0) ++ ((rd_T38 (rd_L4 l0 x4_1) x5_3).f1)).size : Int)))) = true := decide_eq_true c19
                                    (try (have c19b0s := c19b0; simp only [ByteArray.size_append] at c19b0s; have c19b0q := eq_true (of_decide_eq_true c19b0s)))
                                    (try (have c19b0t := c19b0; simp only [ByteArray.size_append, Int.natCast_add, show ((⟨#[32]⟩ : ByteArray)).size = 1 from rfl, show ((1 : Nat) : Int) = 1 from rfl] at c19b0t; have c19b0u := eq_true (of_decide_eq_true c19b0t)))
                                    clear c19
                                    obtain rfl := Option.some.inj H
                                    have p356 : 0 ≤ (x4_1 : Int) := of_decide_eq_true (by first | (with_reducible assumption) | assumption)
                                    have q356 : x4_1 < (l0.length : Int) := of_decide_eq_true (by first | (with_reducible assumption) | assumption)
                                    obtain ⟨ad356, A356_0, c356_0, e356, hx356_0, hl356_0, hi356_0⟩ := at_L4 HR0.out x4_1 p356 q356
                                    cases e356
                                    replace hx356_0 := (HB.out.cell (World.block_lt_of_cell? w _ hx356_0)).trans hx356_0
                                    have HR356_0 := Aside0.mk hi356_0
                                    have HC356_0 := Aside0.mk hl356_0
                                    clear hi356_0 hl356_0
                                    replace p356 := eq_true p356
                                    replace q356 := eq_true q356
                                    have p357 : 0 ≤ (x4_1 : Int) := of_decide_eq_true (by first | (with_reducible assumption) | assumption)
                                    have q357 : x4_1 < (l0.length : Int) := of_decide_eq_true (by first | (with_reducible assumption) | assumption)
                                    obtain ⟨ad357, A357_0, c357_0, e357, hx357_0, hl357_0, hi357_0⟩ := at_L4 HR0.out x4_1 p357 q357
                                    obtain rfl : ad356 = ad357 := (by injection e357)
                                    replace hx357_0 := (HB.out.cell (World.block_lt_of_cell? w _ hx357_0)).trans hx357_0
                                    have HR357_0 := Aside0.mk hi357_0
                                    have HC357_0 := Aside0.mk hl357_0
                                    clear hi357_0 hl357_0
                                    replace p357 := eq_true p357
                                    replace q357 := eq_true q357
                                    have ea_ := Option.some.inj (hx356_0.symm.trans hx357_0)
                                    injection ea_ with ea_ en_ ec_
                                    subst ea_
                                    subst ec_
                                    clear en_
                                    have p358 : 0 ≤ (x5_3 : Int) := of_decide_eq_true (by first | (with_reducible assumption) | assumption)
                                    have q358 : x5_3 < ((rd_L4 l0 x4_1).length : Int) := of_decide_eq_true (by first | (with_reducible assumption) | assumption)
                                    obtain ⟨ad358, e358, hx358_0, hx358_1⟩ := at_T38 HR357_0.out x5_3 p358 q358
                                    cases e358
                                    replace hx358_0 := (HB.out.cell (World.block_lt_of_cell? w _ hx358_0)).trans hx358_0
                                    replace hx358_1 := (HB.out.cell (World.block_lt_of_cell? w _ hx358_1)).trans hx358_1
                                    replace p358 := eq_true p358
                                    replace q358 := eq_true q358
                                    have p359 : 0 ≤ (x4_1 : Int) := of_decide_eq_true (by first | (with_reducible assumption) | assumption)
                                    have q359 : x4_1 < (l0.length : Int) := of_decide_eq_true (by first | (with_reducible assumption) | assumption)
                                    obtain ⟨ad359, A359_0, c359_0, e359, hx359_0, hl359_0, hi359_0⟩ := at_L4 HR0.out x4_1 p359 q359
                                    obtain rfl : ad356 = ad359 := (by injection e359)
                                    replace hx359_0 := (HB.out.cell (World.block_lt_of_cell? w _ hx359_0)).trans hx359_0
                                    have HR359_0 := Aside0.mk hi359_0
                                    have HC359_0 := Aside0.mk hl359_0
                                    clear hi359_0 hl359_0
                                    replace p359 := eq_true p359
                                    replace q359 := eq_true q359
                                    have ea_ := Option.some.inj (hx356_0.symm.trans hx359_0)
                                    injection ea_ with ea_ en_ ec_
                                    subst ea_
                                    subst ec_
                                    clear en_
                                    have p360 : 0 ≤ (x5_3 : Int) := of_decide_eq_true (by first | (with_reducible assumption) | assumption)
                                    have q360 : x5_3 < ((rd_L4 l0 x4_1).length : Int) := of_decide_eq_true (by first | (with_reducible assumption) | assumption)
                                    obtain ⟨ad360, e360, hx360_0, hx360_1⟩ := at_T38 HR359_0.out x5_3 p360 q360
                                    cases e360
                                    replace hx360_0 := (HB.out.cell (World.block_lt_of_cell? w _ hx360_0)).trans hx360_0
                                    replace hx360_1 := (HB.out.cell (World.block_lt_of_cell? w _ hx360_1)).trans hx360_1
                                    replace p360 := eq_true p360
                                    replace q360 := eq_true q360
                                    go_wp2_with (first | (go_at_call 19; (with_reducible refine (spec_l6Term.calls k3 (((rd_T38 (rd_L4 l0 x4_1) x5_3).f0) ++ ((rd_T38 (rd_L4 l0 x4_1) x5_3).f1)) t361 t362 true _ A13.out).mono ?_); rintro e w20 ⟨rfl, hb⟩; have n0_ := Aside0.mk (below_step (by repeat (first | (with_reducible first | exact HB.out | apply below_alloc | apply pw_below_drewN | apply below_drew1) | exact HB.out)) hb); clear HB; have HB := n0_; clear n0_; (try clear hb); (try clear hb2); (try clear hk); (try clear hi)) | ((with_reducible refine gate_dst (N := 7) rfl ?_); (try (refine gate_guard (by rfl) ?_; dsimp only)); refine box_event ?hg (N := 7) ?hd (cs := #[.string (⟨#[]⟩ : ByteArray), .string (⟨#[]⟩ : ByteArray)]) (t := 38) ?hr ?_; (case hd => rfl); (case hg => rfl); (case hr => first | (go_simp; done) | (go_simp; rfl)); intro gb364 hg w21 hbox hb; have n0_ := Aside0.mk (below_step (by repeat (first | (with_reducible first | exact HB.out | apply below_alloc | apply pw_below_drewN | apply below_drew1) | exact HB.out)) hb); have n1_ := Aside0.mk (hbox); have n2_ := Aside0.mk ((by rw [hg]; exact (below_size (by repeat (first | (with_reducible first | exact HB.out | apply below_alloc | apply pw_below_drewN | apply below_drew1) | exact HB.out))) : w.heap.size ≤ gb364)); have n3_ := Aside0.mk ((by rw [hg]; exact (below_size (by repeat (first | (with_reducible first | exact HB.out | apply below_alloc | apply pw_below_drewN | apply below_drew1) | exact HB.out))) : w.heap.size ≤ gb364)); clear HB; have HB := n0_; have BK364 := n1_; have GW364 := n2_; have GE364 := n3_; clear n0_ n1_ n2_ n3_; clear hb hbox hg; have hcz22_0 : w21.cell? ⟨gb364, 0, none⟩ = some (.string (⟨#[]⟩ : ByteArray)) := (blk_cell BK364.out 0).trans rfl; have hcz22_1 : w21.cell? ⟨gb364, 1, none⟩ = some (.string (⟨#[]⟩ : ByteArray)) := (blk_cell BK364.out 1).trans rfl; have hfz22_0 := blk_frozen BK364.out 0; have hfz22_1 := blk_frozen BK364.out 1; have p365 : 0 ≤ (x4_1 : Int) := of_decide_eq_true (by first | (with_reducible assumption) | assumption); have q365 : x4_1 < (l0.length : Int) := of_decide_eq_true (by first | (with_reducible assumption) | assumption); obtain ⟨ad365, A365_0, c365_0, e365, hx365_0, hl365_0, hi365_0⟩ := at_L4 HR0.out x4_1 p365 q365; obtain rfl : ad356 = ad365 := (by injection e365); have hn365_0 : ad356.block ≠ gb364 := Nat.ne_of_lt (Nat.lt_of_lt_of_le (by have := World.block_lt_of_cell? _ _ hx365_0; first | rwa [add_block] at this | exact this) GW364.out); have hn365_1 : ad356.block ≠ gb364 := Nat.ne_of_lt (Nat.lt_of_lt_of_le (by have := World.block_lt_of_cell? _ _ hx365_0; first | rwa [add_block] at this | exact this) GW364.out); replace hx365_0 := (HB.out.cell (World.block_lt_of_cell? w _ hx365_0)).trans hx365_0; have HR365_0 := Aside0.mk hi365_0; have HC365_0 := Aside0.mk hl365_0; clear hi365_0 hl365_0; replace hx365_0 := (cell_far (p := ⟨gb364, 0, none⟩) (by first | (rw [add_block]; exact hn365_0) | (show (Addr.add _ _).block ≠ _; rw [add_block]; exact hn365_0) | exact hn365_0) (.string t361)).trans hx365_0; replace hx365_0 := (cell_far (p := ⟨gb364, 1, none⟩) (by first | (rw [add_block]; exact hn365_1) | (show (Addr.add _ _).block ≠ _; rw [add_block]; exact hn365_1) | exact hn365_1) (.string t362)).trans hx365_0; (try have hy365_0 := fun (n_ : Nat) => (show ((((w21.drewN n_).setCell ⟨gb364, 0, none⟩ (.string t361)).setCell ⟨gb364, 1, none⟩ (.string t362))).cell? _ = some _ from hx365_0)); clear hn365_0; clear hn365_1; replace p365 := eq_true p365; replace q365 := eq_true q365; have p366 : 0 ≤ (x5_3 : Int) := of_decide_eq_true (by first | (with_reducible assumption) | assumption); have q366 : x5_3 < ((rd_L4 l0 x4_1).length : Int) := of_decide_eq_true (by first | (with_reducible assumption) | assumption); obtain ⟨ad366, e366, hx366_0, hx366_1⟩ := at_T38 HR365_0.out x5_3 p366 q366; cases e366; have hn366_0 : ad366.block ≠ gb364 := Nat.ne_of_lt (Nat.lt_of_lt_of_le (by have := World.block_lt_of_cell? _ _ hx366_0; first | rwa [add_block] at this | exact this) GW364.out); have hn366_1 : ad366.block ≠ gb364 := Nat.ne_of_lt (Nat.lt_of_lt_of_le (by have := World.block_lt_of_cell? _ _ hx366_0; first | rwa [add_block] at this | exact this) GW364.out); replace hx366_0 := (HB.out.cell (World.block_lt_of_cell? w _ hx366_0)).trans hx366_0; replace hx366_1 := (HB.out.cell (World.block_lt_of_cell? w _ hx366_1)).trans hx366_1; replace hx366_0 := (cell_far (p := ⟨gb364, 0, none⟩) (by first | (rw [add_block]; exact hn366_0) | (show (Addr.add _ _).block ≠ _; rw [add_block]; exact hn366_0) | exact hn366_0) (.string t361)).trans hx366_0; replace hx366_1 := (cell_far (p := ⟨gb364, 0, none⟩) (by first | (rw [add_block]; exact hn366_0) | (show (Addr.add _ _).block ≠ _; rw [add_block]; exact hn366_0) | exact hn366_0) (.string t361)).trans hx366_1; replace hx366_0 := (cell_far (p := ⟨gb364, 1, none⟩) (by first | (rw [add_block]; exact hn366_1) | (show (Addr.add _ _).block ≠ _; rw [add_block]; exact hn366_1) | exact hn366_1) (.string t362)).trans hx366_0; replace hx366_1 := (cell_far (p := ⟨gb364, 1, none⟩) (by first | (rw [add_block]; exact hn366_1) | (show (Addr.add _ _).block ≠ _; rw [add_block]; exact hn366_1) | exact hn366_1) (.string t362)).trans hx366_1; (try have hy366_0 := fun (n_ : Nat) => (show ((((w21.drewN n_).setCell ⟨gb364, 0, none⟩ (.string t361)).setCell ⟨gb364, 1, none⟩ (.string t362))).cell? _ = some _ from hx366_0)); (try have hy366_1 := fun (n_ : Nat) => (show ((((w21.drewN n_).setCell ⟨gb364, 0, none⟩ (.string t361)).setCell ⟨gb364, 1, none⟩ (.string t362))).cell? _ = some _ from hx366_1)); clear hn366_0; clear hn366_1; replace p366 := eq_true p366; replace q366 := eq_true q366))
                                    repeat (go_quiet (first | (go_at_call 19; (with_reducible refine (spec_l6Term.calls k3 (((rd_T38 (rd_L4 l0 x4_1) x5_3).f0) ++ ((rd_T38 (rd_L4 l0 x4_1) x5_3).f1)) t361 t362 true _ A13.out).mono ?_); rintro e w20 ⟨rfl, hb⟩; have n0_ := Aside0.mk (below_step (by repeat (first | (with_reducible first | exact HB.out | apply below_alloc | apply pw_below_drewN | apply below_drew1) | exact HB.out)) hb); clear HB; have HB := n0_; clear n0_; (try clear hb); (try clear hb2); (try clear hk); (try clear hi); (try clear A13)) | ((with_reducible refine gate_dst (N := 7) rfl ?_); (try (refine gate_guard (by rfl) ?_; dsimp only)); refine box_event ?hg (N := 7) ?hd (cs := #[.string (⟨#[]⟩ : ByteArray), .string (⟨#[]⟩ : ByteArray)]) (t := 38) ?hr ?_; (case hd => rfl); (case hg => rfl); (case hr => first | (go_simp; done) | (go_simp; rfl)); intro gb364 hg w21 hbox hb; have n0_ := Aside0.mk (below_step (by repeat (first | (with_reducible first | exact HB.out | apply below_alloc | apply pw_below_drewN | apply below_drew1) | exact HB.out)) hb); have n1_ := Aside0.mk (hbox); have n2_ := Aside0.mk ((by rw [hg]; exact (below_size (by repeat (first | (with_reducible first | exact HB.out | apply below_alloc | apply pw_below_drewN | apply below_drew1) | exact HB.out))) : w.heap.size ≤ gb364)); have n3_ := Aside0.mk ((by rw [hg]; exact (below_size (by repeat (first | (with_reducible first | exact HB.out | apply below_alloc | apply pw_below_drewN | apply below_drew1) | exact HB.out))) : w.heap.size ≤ gb364)); clear HB; have HB := n0_; have BK364 := n1_; have GW364 := n2_; have GE364 := n3_; clear n0_ n1_ n2_ n3_; clear hb hbox hg; have hcz22_0 : w21.cell? ⟨gb364, 0, none⟩ = some (.string (⟨#[]⟩ : ByteArray)) := (blk_cell BK364.out 0).trans rfl; have hcz22_1 : w21.cell? ⟨gb364, 1, none⟩ = some (.string (⟨#[]⟩ : ByteArray)) := (blk_cell BK364.out 1).trans rfl; have hfz22_0 := blk_frozen BK364.out 0; have hfz22_1 := blk_frozen BK364.out 1; have p365 : 0 ≤ (x4_1 : Int) := of_decide_eq_true (by first | (with_reducible assumption) | assumption); have q365 : x4_1 < (l0.length : Int) := of_decide_eq_true (by first | (with_reducible assumption) | assumption); obtain ⟨ad365, A365_0, c365_0, e365, hx365_0, hl365_0, hi365_0⟩ := at_L4 HR0.out x4_1 p365 q365; obtain rfl : ad356 = ad365 := (by injection e365); have hn365_0 : ad356.block ≠ gb364 := Nat.ne_of_lt (Nat.lt_of_lt_of_le (by have := World.block_lt_of_cell? _ _ hx365_0; first | rwa [add_block] at this | exact this) GW364.out); have hn365_1 : ad356.block ≠ gb364 := Nat.ne_of_lt (Nat.lt_of_lt_of_le (by have := World.block_lt_of_cell? _ _ hx365_0; first | rwa [add_block] at this | exact this) GW364.out); replace hx365_0 := (HB.out.cell (World.block_lt_of_cell? w _ hx365_0)).trans hx365_0; have HR365_0 := Aside0.mk hi365_0; have HC365_0 := Aside0.mk hl365_0; clear hi365_0 hl365_0; replace hx365_0 := (cell_far (p := ⟨gb364, 0, none⟩) (by first | (rw [add_block]; exact hn365_0) | (show (Addr.add _ _).block ≠ _; rw [add_block]; exact hn365_0) | exact hn365_0) (.string t361)).trans hx365_0; replace hx365_0 := (cell_far (p := ⟨gb364, 1, none⟩) (by first | (rw [add_block]; exact hn365_1) | (show (Addr.add _ _).block ≠ _; rw [add_block]; exact hn365_1) | exact hn365_1) (.string t362)).trans hx365_0; (try have hy365_0 := fun (n_ : Nat) => (show ((((w21.drewN n_).setCell ⟨gb364, 0, none⟩ (.string t361)).setCell ⟨gb364, 1, none⟩ (.string t362))).cell? _ = some _ from hx365_0)); clear hn365_0; clear hn365_1; replace p365 := eq_true p365; replace q365 := eq_true q365; have p366 : 0 ≤ (x5_3 : Int) := of_decide_eq_true (by first | (with_reducible assumption) | assumption); have q366 : x5_3 < ((rd_L4 l0 x4_1).length : Int) := of_decide_eq_true (by first | (with_reducible assumption) | assumption); obtain ⟨ad366, e366, hx366_0, hx366_1⟩ := at_T38 HR365_0.out x5_3 p366 q366; cases e366; have hn366_0 : ad366.block ≠ gb364 := Nat.ne_of_lt (Nat.lt_of_lt_of_le (by have := World.block_lt_of_cell? _ _ hx366_0; first | rwa [add_block] at this | exact this) GW364.out); have hn366_1 : ad366.block ≠ gb364 := Nat.ne_of_lt (Nat.lt_of_lt_of_le (by have := World.block_lt_of_cell? _ _ hx366_0; first | rwa [add_block] at this | exact this) GW364.out); replace hx366_0 := (HB.out.cell (World.block_lt_of_cell? w _ hx366_0)).trans hx366_0; replace hx366_1 := (HB.out.cell (World.block_lt_of_cell? w _ hx366_1)).trans hx366_1; replace hx366_0 := (cell_far (p := ⟨gb364, 0, none⟩) (by first | (rw [add_block]; exact hn366_0) | (show (Addr.add _ _).block ≠ _; rw [add_block]; exact hn366_0) | exact hn366_0) (.string t361)).trans hx366_0; replace hx366_1 := (cell_far (p := ⟨gb364, 0, none⟩) (by first | (rw [add_block]; exact hn366_0) | (show (Addr.add _ _).block ≠ _; rw [add_block]; exact hn366_0) | exact hn366_0) (.string t361)).trans hx366_1; replace hx366_0 := (cell_far (p := ⟨gb364, 1, none⟩) (by first | (rw [add_block]; exact hn366_1) | (show (Addr.add _ _).block ≠ _; rw [add_block]; exact hn366_1) | exact hn366_1) (.string t362)).trans hx366_0; replace hx366_1 := (cell_far (p := ⟨gb364, 1, none⟩) (by first | (rw [add_block]; exact hn366_1) | (show (Addr.add _ _).block ≠ _; rw [add_block]; exact hn366_1) | exact hn366_1) (.string t362)).trans hx366_1; (try have hy366_0 := fun (n_ : Nat) => (show ((((w21.drewN n_).setCell ⟨gb364, 0, none⟩ (.string t361)).setCell ⟨gb364, 1, none⟩ (.string t362))).cell? _ = some _ from hx366_0)); (try have hy366_1 := fun (n_ : Nat) => (show ((((w21.drewN n_).setCell ⟨gb364, 0, none⟩ (.string t361)).setCell ⟨gb364, 1, none⟩ (.string t362))).cell? _ = some _ from hx366_1)); clear hn366_0; clear hn366_1; replace p366 := eq_true p366; replace q366 := eq_true q366)); try go_wp2_with (first | (go_at_call 19; (with_reducible refine (spec_l6Term.calls k3 (((rd_T38 (rd_L4 l0 x4_1) x5_3).f0) ++ ((rd_T38 (rd_L4 l0 x4_1) x5_3).f1)) t361 t362 true _ A13.out).mono ?_); rintro e w20 ⟨rfl, hb⟩; have n0_ := Aside0.mk (below_step (by repeat (first | (with_reducible first | exact HB.out | apply below_alloc | apply pw_below_drewN | apply below_drew1) | exact HB.out)) hb); clear HB; have HB := n0_; clear n0_; (try clear hb); (try clear hb2); (try clear hk); (try clear hi); (try clear A13)) | ((with_reducible refine gate_dst (N := 7) rfl ?_); (try (refine gate_guard (by rfl) ?_; dsimp only)); refine box_event ?hg (N := 7) ?hd (cs := #[.string (⟨#[]⟩ : ByteArray), .string (⟨#[]⟩ : ByteArray)]) (t := 38) ?hr ?_; (case hd => rfl); (case hg => rfl); (case hr => first | (go_simp; done) | (go_simp; rfl)); intro gb364 hg w21 hbox hb; have n0_ := Aside0.mk (below_step (by repeat (first | (with_reducible first | exact HB.out | apply below_alloc | apply pw_below_drewN | apply below_drew1) | exact HB.out)) hb); have n1_ := Aside0.mk (hbox); have n2_ := Aside0.mk ((by rw [hg]; exact (below_size (by repeat (first | (with_reducible first | exact HB.out | apply below_alloc | apply pw_below_drewN | apply below_drew1) | exact HB.out))) : w.heap.size ≤ gb364)); have n3_ := Aside0.mk ((by rw [hg]; exact (below_size (by repeat (first | (with_reducible first | exact HB.out | apply below_alloc | apply pw_below_drewN | apply below_drew1) | exact HB.out))) : w.heap.size ≤ gb364)); clear HB; have HB := n0_; have BK364 := n1_; have GW364 := n2_; have GE364 := n3_; clear n0_ n1_ n2_ n3_; clear hb hbox hg; have hcz22_0 : w21.cell? ⟨gb364, 0, none⟩ = some (.string (⟨#[]⟩ : ByteArray)) := (blk_cell BK364.out 0).trans rfl; have hcz22_1 : w21.cell? ⟨gb364, 1, none⟩ = some (.string (⟨#[]⟩ : ByteArray)) := (blk_cell BK364.out 1).trans rfl; have hfz22_0 := blk_frozen BK364.out 0; have hfz22_1 := blk_frozen BK364.out 1; have p365 : 0 ≤ (x4_1 : Int) := of_decide_eq_true (by first | (with_reducible assumption) | assumption); have q365 : x4_1 < (l0.length : Int) := of_decide_eq_true (by first | (with_reducible assumption) | assumption); obtain ⟨ad365, A365_0, c365_0, e365, hx365_0, hl365_0, hi365_0⟩ := at_L4 HR0.out x4_1 p365 q365; obtain rfl : ad356 = ad365 := (by injection e365); have hn365_0 : ad356.block ≠ gb364 := Nat.ne_of_lt (Nat.lt_of_lt_of_le (by have := World.block_lt_of_cell? _ _ hx365_0; first | rwa [add_block] at this | exact this) GW364.out); have hn365_1 : ad356.block ≠ gb364 := Nat.ne_of_lt (Nat.lt_of_lt_of_le (by have := World.block_lt_of_cell? _ _ hx365_0; first | rwa [add_block] at this | exact this) GW364.out); replace hx365_0 := (HB.out.cell (World.block_lt_of_cell? w _ hx365_0)).trans hx365_0; have HR365_0 := Aside0.mk hi365_0; have HC365_0 := Aside0.mk hl365_0; clear hi365_0 hl365_0; replace hx365_0 := (cell_far (p := ⟨gb364, 0, none⟩) (by first | (rw [add_block]; exact hn365_0) | (show (Addr.add _ _).block ≠ _; rw [add_block]; exact hn365_0) | exact hn365_0) (.string t361)).trans hx365_0; replace hx365_0 := (cell_far (p := ⟨gb364, 1, none⟩) (by first | (rw [add_block]; exact hn365_1) | (show (Addr.add _ _).block ≠ _; rw [add_block]; exact hn365_1) | exact hn365_1) (.string t362)).trans hx365_0; (try have hy365_0 := fun (n_ : Nat) => (show ((((w21.drewN n_).setCell ⟨gb364, 0, none⟩ (.string t361)).setCell ⟨gb364, 1, none⟩ (.string t362))).cell? _ = some _ from hx365_0)); clear hn365_0; clear hn365_1; replace p365 := eq_true p365; replace q365 := eq_true q365; have p366 : 0 ≤ (x5_3 : Int) := of_decide_eq_true (by first | (with_reducible assumption) | assumption); have q366 : x5_3 < ((rd_L4 l0 x4_1).length : Int) := of_decide_eq_true (by first | (with_reducible assumption) | assumption); obtain ⟨ad366, e366, hx366_0, hx366_1⟩ := at_T38 HR365_0.out x5_3 p366 q366; cases e366; have hn366_0 : ad366.block ≠ gb364 := Nat.ne_of_lt (Nat.lt_of_lt_of_le (by have := World.block_lt_of_cell? _ _ hx366_0; first | rwa [add_block] at this | exact this) GW364.out); have hn366_1 : ad366.block ≠ gb364 := Nat.ne_of_lt (Nat.lt_of_lt_of_le (by have := World.block_lt_of_cell? _ _ hx366_0; first | rwa [add_block] at this | exact this) GW364.out); replace hx366_0 := (HB.out.cell (World.block_lt_of_cell? w _ hx366_0)).trans hx366_0; replace hx366_1 := (HB.out.cell (World.block_lt_of_cell? w _ hx366_1)).trans hx366_1; replace hx366_0 := (cell_far (p := ⟨gb364, 0, none⟩) (by first | (rw [add_block]; exact hn366_0) | (show (Addr.add _ _).block ≠ _; rw [add_block]; exact hn366_0) | exact hn366_0) (.string t361)).trans hx366_0; replace hx366_1 := (cell_far (p := ⟨gb364, 0, none⟩) (by first | (rw [add_block]; exact hn366_0) | (show (Addr.add _ _).block ≠ _; rw [add_block]; exact hn366_0) | exact hn366_0) (.string t361)).trans hx366_1; replace hx366_0 := (cell_far (p := ⟨gb364, 1, none⟩) (by first | (rw [add_block]; exact hn366_1) | (show (Addr.add _ _).block ≠ _; rw [add_block]; exact hn366_1) | exact hn366_1) (.string t362)).trans hx366_0; replace hx366_1 := (cell_far (p := ⟨gb364, 1, none⟩) (by first | (rw [add_block]; exact hn366_1) | (show (Addr.add _ _).block ≠ _; rw [add_block]; exact hn366_1) | exact hn366_1) (.string t362)).trans hx366_1; (try have hy366_0 := fun (n_ : Nat) => (show ((((w21.drewN n_).setCell ⟨gb364, 0, none⟩ (.string t361)).setCell ⟨gb364, 1, none⟩ (.string t362))).cell? _ = some _ from hx366_0)); (try have hy366_1 := fun (n_ : Nat) => (show ((((w21.drewN n_).setCell ⟨gb364, 0, none⟩ (.string t361)).setCell ⟨gb364, 1, none⟩ (.string t362))).cell? _ = some _ from hx366_1)); clear hn366_0; clear hn366_1; replace p366 := eq_true p366; replace q366 := eq_true q366)))
                                    go_ret
                                    exact ⟨by first | rfl | (simp [errW_none, errW_some] <;> rfl) | (simp [*, errW_none, errW_some] <;> rfl), by repeat (first | (with_reducible first | exact HB.out | apply below_alloc | apply pw_below_drewN | apply below_drew1 | refine below_set ?_ GE364.out) | exact HB.out)⟩
                                  · rw [if_neg c19] at H
                                    have c19b0 : decide (200 < (wrap64 (((x3_3 ++ (⟨#[32]⟩ : ByteArray)).size : Int) + ((((rd_T38 (rd_L4 l0 x4_1) x5_3).f0) ++ ((rd_T38 (rd_L4 l0 x4_1) x5_3).f1)).size : Int)))) = false := decide_eq_false c19
                                    (try (have c19b0t := c19b0; simp only [ByteArray.size_append, Int.natCast_add, show ((⟨#[32]⟩ : ByteArray)).size = 1 from rfl, show ((1 : Nat) : Int) = 1 from rfl] at c19b0t; have c19b0u := eq_false (of_decide_eq_false c19b0t)))
                                    clear c19
                                    by_cases c23 : (x3_3 ++ (⟨#[32]⟩ : ByteArray)).size + (((rd_T38 (rd_L4 l0 x4_1) x5_3).f0) ++ ((rd_T38 (rd_L4 l0 x4_1) x5_3).f1)).size ≤ 9223372036854775807
                                    · rw [if_pos c23] at H
                                      have c23b0 := eq_true c23
                                      have c23b1 : decide ((x3_3 ++ (⟨#[32]⟩ : ByteArray)).size + (((rd_T38 (rd_L4 l0 x4_1) x5_3).f0) ++ ((rd_T38 (rd_L4 l0 x4_1) x5_3).f1)).size ≤ 9223372036854775807) = true := decide_eq_true c23
                                      (try (have c23b1s := c23b1; simp only [ByteArray.size_append] at c23b1s; have c23b1q := eq_true (of_decide_eq_true c23b1s)))
                                      (try (have c23b1t := c23b1; simp only [ByteArray.size_append, Int.natCast_add, show ((⟨#[32]⟩ : ByteArray)).size = 1 from rfl, show ((1 : Nat) : Int) = 1 from rfl] at c23b1t; have c23b1u := eq_true (of_decide_eq_true c23b1t)))
                                      try have c23b2 : (9223372036854775807 < (x3_3 ++ (⟨#[32]⟩ : ByteArray)).size + (((rd_T38 (rd_L4 l0 x4_1) x5_3).f0) ++ ((rd_T38 (rd_L4 l0 x4_1) x5_3).f1)).size) = False := eq_false (Nat.not_lt.2 c23)
                                      have H' := Aside0.mk H
                                      clear H
                                      have p356 : 0 ≤ (x4_1 : Int) := of_decide_eq_true (by first | (with_reducible assumption) | assumption)
                                      have q356 : x4_1 < (l0.length : Int) := of_decide_eq_true (by first | (with_reducible assumption) | assumption)
                                      obtain ⟨ad356, A356_0, c356_0, e356, hx356_0, hl356_0, hi356_0⟩ := at_L4 HR0.out x4_1 p356 q356
                                      cases e356
                                      replace hx356_0 := (HB.out.cell (World.block_lt_of_cell? w _ hx356_0)).trans hx356_0
                                      have HR356_0 := Aside0.mk hi356_0
                                      have HC356_0 := Aside0.mk hl356_0
                                      clear hi356_0 hl356_0
                                      replace p356 := eq_true p356
                                      replace q356 := eq_true q356
                                      have p357 : 0 ≤ (x4_1 : Int) := of_decide_eq_true (by first | (with_reducible assumption) | assumption)
                                      have q357 : x4_1 < (l0.length : Int) := of_decide_eq_true (by first | (with_reducible assumption) | assumption)
                                      obtain ⟨ad357, A357_0, c357_0, e357, hx357_0, hl357_0, hi357_0⟩ := at_L4 HR0.out x4_1 p357 q357
                                      obtain rfl : ad356 = ad357 := (by injection e357)
                                      replace hx357_0 := (HB.out.cell (World.block_lt_of_cell? w _ hx357_0)).trans hx357_0
                                      have HR357_0 := Aside0.mk hi357_0
                                      have HC357_0 := Aside0.mk hl357_0
                                      clear hi357_0 hl357_0
                                      replace p357 := eq_true p357
                                      replace q357 := eq_true q357
                                      have ea_ := Option.some.inj (hx356_0.symm.trans hx357_0)
                                      injection ea_ with ea_ en_ ec_
                                      subst ea_
                                      subst ec_
                                      clear en_
                                      have p358 : 0 ≤ (x5_3 : Int) := of_decide_eq_true (by first | (with_reducible assumption) | assumption)
                                      have q358 : x5_3 < ((rd_L4 l0 x4_1).length : Int) := of_decide_eq_true (by first | (with_reducible assumption) | assumption)
                                      obtain ⟨ad358, e358, hx358_0, hx358_1⟩ := at_T38 HR357_0.out x5_3 p358 q358
                                      cases e358
                                      replace hx358_0 := (HB.out.cell (World.block_lt_of_cell? w _ hx358_0)).trans hx358_0
                                      replace hx358_1 := (HB.out.cell (World.block_lt_of_cell? w _ hx358_1)).trans hx358_1
                                      replace p358 := eq_true p358
                                      replace q358 := eq_true q358
                                      have p359 : 0 ≤ (x4_1 : Int) := of_decide_eq_true (by first | (with_reducible assumption) | assumption)
                                      have q359 : x4_1 < (l0.length : Int) := of_decide_eq_true (by first | (with_reducible assumption) | assumption)
                                      obtain ⟨ad359, A359_0, c359_0, e359, hx359_0, hl359_0, hi359_0⟩ := at_L4 HR0.out x4_1 p359 q359
                                      obtain rfl : ad356 = ad359 := (by injection e359)
                                      replace hx359_0 := (HB.out.cell (World.block_lt_of_cell? w _ hx359_0)).trans hx359_0
                                      have HR359_0 := Aside0.mk hi359_0
                                      have HC359_0 := Aside0.mk hl359_0
                                      clear hi359_0 hl359_0
                                      replace p359 := eq_true p359
                                      replace q359 := eq_true q359
                                      have ea_ := Option.some.inj (hx356_0.symm.trans hx359_0)
                                      injection ea_ with ea_ en_ ec_
                                      subst ea_
                                      subst ec_
                                      clear en_
                                      have p360 : 0 ≤ (x5_3 : Int) := of_decide_eq_true (by first | (with_reducible assumption) | assumption)
                                      have q360 : x5_3 < ((rd_L4 l0 x4_1).length : Int) := of_decide_eq_true (by first | (with_reducible assumption) | assumption)
                                      obtain ⟨ad360, e360, hx360_0, hx360_1⟩ := at_T38 HR359_0.out x5_3 p360 q360
                                      cases e360
                                      replace hx360_0 := (HB.out.cell (World.block_lt_of_cell? w _ hx360_0)).trans hx360_0
                                      replace hx360_1 := (HB.out.cell (World.block_lt_of_cell? w _ hx360_1)).trans hx360_1
                                      replace p360 := eq_true p360
                                      replace q360 := eq_true q360
                                      go_wp2_with (first | (go_at_call 19; (with_reducible refine (spec_l6Term.calls k3 (((rd_T38 (rd_L4 l0 x4_1) x5_3).f0) ++ ((rd_T38 (rd_L4 l0 x4_1) x5_3).f1)) t361 t362 true _ A13.out).mono ?_); rintro e w24 ⟨rfl, hb⟩; have n0_ := Aside0.mk (below_step (by repeat (first | (with_reducible first | exact HB.out | apply below_alloc | apply pw_below_drewN | apply below_drew1) | exact HB.out)) hb); clear HB; have HB := n0_; clear n0_; (try clear hb); (try clear hb2); (try clear hk); (try clear hi)) | ((with_reducible refine gate_dst (N := 7) rfl ?_); (try (refine gate_guard (by rfl) ?_; dsimp only)); refine box_event ?hg (N := 7) ?hd (cs := #[.string (⟨#[]⟩ : ByteArray), .string (⟨#[]⟩ : ByteArray)]) (t := 38) ?hr ?_; (case hd => rfl); (case hg => rfl); (case hr => first | (go_simp; done) | (go_simp; rfl)); intro gb364 hg w25 hbox hb; have n0_ := Aside0.mk (below_step (by repeat (first | (with_reducible first | exact HB.out | apply below_alloc | apply pw_below_drewN | apply below_drew1) | exact HB.out)) hb); have n1_ := Aside0.mk (hbox); have n2_ := Aside0.mk ((by rw [hg]; exact (below_size (by repeat (first | (with_reducible first | exact HB.out | apply below_alloc | apply pw_below_drewN | apply below_drew1) | exact HB.out))) : w.heap.size ≤ gb364)); have n3_ := Aside0.mk ((by rw [hg]; exact (below_size (by repeat (first | (with_reducible first | exact HB.out | apply below_alloc | apply pw_below_drewN | apply below_drew1) | exact HB.out))) : w.heap.size ≤ gb364)); clear HB; have HB := n0_; have BK364 := n1_; have GW364 := n2_; have GE364 := n3_; clear n0_ n1_ n2_ n3_; clear hb hbox hg; have hcz26_0 : w25.cell? ⟨gb364, 0, none⟩ = some (.string (⟨#[]⟩ : ByteArray)) := (blk_cell BK364.out 0).trans rfl; have hcz26_1 : w25.cell? ⟨gb364, 1, none⟩ = some (.string (⟨#[]⟩ : ByteArray)) := (blk_cell BK364.out 1).trans rfl; have hfz26_0 := blk_frozen BK364.out 0; have hfz26_1 := blk_frozen BK364.out 1; have p365 : 0 ≤ (x4_1 : Int) := of_decide_eq_true (by first | (with_reducible assumption) | assumption); have q365 : x4_1 < (l0.length : Int) := of_decide_eq_true (by first | (with_reducible assumption) | assumption); obtain ⟨ad365, A365_0, c365_0, e365, hx365_0, hl365_0, hi365_0⟩ := at_L4 HR0.out x4_1 p365 q365; obtain rfl : ad356 = ad365 := (by injection e365); have hn365_0 : ad356.block ≠ gb364 := Nat.ne_of_lt (Nat.lt_of_lt_of_le (by have := World.block_lt_of_cell? _ _ hx365_0; first | rwa [add_block] at this | exact this) GW364.out); have hn365_1 : ad356.block ≠ gb364 := Nat.ne_of_lt (Nat.lt_of_lt_of_le (by have := World.block_lt_of_cell? _ _ hx365_0; first | rwa [add_block] at this | exact this) GW364.out); replace hx365_0 := (HB.out.cell (World.block_lt_of_cell? w _ hx365_0)).trans hx365_0; have HR365_0 := Aside0.mk hi365_0; have HC365_0 := Aside0.mk hl365_0; clear hi365_0 hl365_0; replace hx365_0 := (cell_far (p := ⟨gb364, 0, none⟩) (by first | (rw [add_block]; exact hn365_0) | (show (Addr.add _ _).block ≠ _; rw [add_block]; exact hn365_0) | exact hn365_0) (.string t361)).trans hx365_0; replace hx365_0 := (cell_far (p := ⟨gb364, 1, none⟩) (by first | (rw [add_block]; exact hn365_1) | (show (Addr.add _ _).block ≠ _; rw [add_block]; exact hn365_1) | exact hn365_1) (.string t362)).trans hx365_0; (try have hy365_0 := fun (n_ : Nat) => (show ((((w25.drewN n_).setCell ⟨gb364, 0, none⟩ (.string t361)).setCell ⟨gb364, 1, none⟩ (.string t362))).cell? _ = some _ from hx365_0)); clear hn365_0; clear hn365_1; replace p365 := eq_true p365; replace q365 := eq_true q365; have p366 : 0 ≤ (x5_3 : Int) := of_decide_eq_true (by first | (with_reducible assumption) | assumption); have q366 : x5_3 < ((rd_L4 l0 x4_1).length : Int) := of_decide_eq_true (by first | (with_reducible assumption) | assumption); obtain ⟨ad366, e366, hx366_0, hx366_1⟩ := at_T38 HR365_0.out x5_3 p366 q366; cases e366; have hn366_0 : ad366.block ≠ gb364 := Nat.ne_of_lt (Nat.lt_of_lt_of_le (by have := World.block_lt_of_cell? _ _ hx366_0; first | rwa [add_block] at this | exact this) GW364.out); have hn366_1 : ad366.block ≠ gb364 := Nat.ne_of_lt (Nat.lt_of_lt_of_le (by have := World.block_lt_of_cell? _ _ hx366_0; first | rwa [add_block] at this | exact this) GW364.out); replace hx366_0 := (HB.out.cell (World.block_lt_of_cell? w _ hx366_0)).trans hx366_0; replace hx366_1 := (HB.out.cell (World.block_lt_of_cell? w _ hx366_1)).trans hx366_1; replace hx366_0 := (cell_far (p := ⟨gb364, 0, none⟩) (by first | (rw [add_block]; exact hn366_0) | (show (Addr.add _ _).block ≠ _; rw [add_block]; exact hn366_0) | exact hn366_0) (.string t361)).trans hx366_0; replace hx366_1 := (cell_far (p := ⟨gb364, 0, none⟩) (by first | (rw [add_block]; exact hn366_0) | (show (Addr.add _ _).block ≠ _; rw [add_block]; exact hn366_0) | exact hn366_0) (.string t361)).trans hx366_1; replace hx366_0 := (cell_far (p := ⟨gb364, 1, none⟩) (by first | (rw [add_block]; exact hn366_1) | (show (Addr.add _ _).block ≠ _; rw [add_block]; exact hn366_1) | exact hn366_1) (.string t362)).trans hx366_0; replace hx366_1 := (cell_far (p := ⟨gb364, 1, none⟩) (by first | (rw [add_block]; exact hn366_1) | (show (Addr.add _ _).block ≠ _; rw [add_block]; exact hn366_1) | exact hn366_1) (.string t362)).trans hx366_1; (try have hy366_0 := fun (n_ : Nat) => (show ((((w25.drewN n_).setCell ⟨gb364, 0, none⟩ (.string t361)).setCell ⟨gb364, 1, none⟩ (.string t362))).cell? _ = some _ from hx366_0)); (try have hy366_1 := fun (n_ : Nat) => (show ((((w25.drewN n_).setCell ⟨gb364, 0, none⟩ (.string t361)).setCell ⟨gb364, 1, none⟩ (.string t362))).cell? _ = some _ from hx366_1)); clear hn366_0; clear hn366_1; replace p366 := eq_true p366; replace q366 := eq_true q366))
                                      repeat (go_quiet (first | (go_at_call 19; (with_reducible refine (spec_l6Term.calls k3 (((rd_T38 (rd_L4 l0 x4_1) x5_3).f0) ++ ((rd_T38 (rd_L4 l0 x4_1) x5_3).f1)) t361 t362 true _ A13.out).mono ?_); rintro e w24 ⟨rfl, hb⟩; have n0_ := Aside0.mk (below_step (by repeat (first | (with_reducible first | exact HB.out | apply below_alloc | apply pw_below_drewN | apply below_drew1) | exact HB.out)) hb); clear HB; have HB := n0_; clear n0_; (try clear hb); (try clear hb2); (try clear hk); (try clear hi); (try clear A13)) | ((with_reducible refine gate_dst (N := 7) rfl ?_); (try (refine gate_guard (by rfl) ?_; dsimp only)); refine box_event ?hg (N := 7) ?hd (cs := #[.string (⟨#[]⟩ : ByteArray), .string (⟨#[]⟩ : ByteArray)]) (t := 38) ?hr ?_; (case hd => rfl); (case hg => rfl); (case hr => first | (go_simp; done) | (go_simp; rfl)); intro gb364 hg w25 hbox hb; have n0_ := Aside0.mk (below_step (by repeat (first | (with_reducible first | exact HB.out | apply below_alloc | apply pw_below_drewN | apply below_drew1) | exact HB.out)) hb); have n1_ := Aside0.mk (hbox); have n2_ := Aside0.mk ((by rw [hg]; exact (below_size (by repeat (first | (with_reducible first | exact HB.out | apply below_alloc | apply pw_below_drewN | apply below_drew1) | exact HB.out))) : w.heap.size ≤ gb364)); have n3_ := Aside0.mk ((by rw [hg]; exact (below_size (by repeat (first | (with_reducible first | exact HB.out | apply below_alloc | apply pw_below_drewN | apply below_drew1) | exact HB.out))) : w.heap.size ≤ gb364)); clear HB; have HB := n0_; have BK364 := n1_; have GW364 := n2_; have GE364 := n3_; clear n0_ n1_ n2_ n3_; clear hb hbox hg; have hcz26_0 : w25.cell? ⟨gb364, 0, none⟩ = some (.string (⟨#[]⟩ : ByteArray)) := (blk_cell BK364.out 0).trans rfl; have hcz26_1 : w25.cell? ⟨gb364, 1, none⟩ = some (.string (⟨#[]⟩ : ByteArray)) := (blk_cell BK364.out 1).trans rfl; have hfz26_0 := blk_frozen BK364.out 0; have hfz26_1 := blk_frozen BK364.out 1; have p365 : 0 ≤ (x4_1 : Int) := of_decide_eq_true (by first | (with_reducible assumption) | assumption); have q365 : x4_1 < (l0.length : Int) := of_decide_eq_true (by first | (with_reducible assumption) | assumption); obtain ⟨ad365, A365_0, c365_0, e365, hx365_0, hl365_0, hi365_0⟩ := at_L4 HR0.out x4_1 p365 q365; obtain rfl : ad356 = ad365 := (by injection e365); have hn365_0 : ad356.block ≠ gb364 := Nat.ne_of_lt (Nat.lt_of_lt_of_le (by have := World.block_lt_of_cell? _ _ hx365_0; first | rwa [add_block] at this | exact this) GW364.out); have hn365_1 : ad356.block ≠ gb364 := Nat.ne_of_lt (Nat.lt_of_lt_of_le (by have := World.block_lt_of_cell? _ _ hx365_0; first | rwa [add_block] at this | exact this) GW364.out); replace hx365_0 := (HB.out.cell (World.block_lt_of_cell? w _ hx365_0)).trans hx365_0; have HR365_0 := Aside0.mk hi365_0; have HC365_0 := Aside0.mk hl365_0; clear hi365_0 hl365_0; replace hx365_0 := (cell_far (p := ⟨gb364, 0, none⟩) (by first | (rw [add_block]; exact hn365_0) | (show (Addr.add _ _).block ≠ _; rw [add_block]; exact hn365_0) | exact hn365_0) (.string t361)).trans hx365_0; replace hx365_0 := (cell_far (p := ⟨gb364, 1, none⟩) (by first | (rw [add_block]; exact hn365_1) | (show (Addr.add _ _).block ≠ _; rw [add_block]; exact hn365_1) | exact hn365_1) (.string t362)).trans hx365_0; (try have hy365_0 := fun (n_ : Nat) => (show ((((w25.drewN n_).setCell ⟨gb364, 0, none⟩ (.string t361)).setCell ⟨gb364, 1, none⟩ (.string t362))).cell? _ = some _ from hx365_0)); clear hn365_0; clear hn365_1; replace p365 := eq_true p365; replace q365 := eq_true q365; have p366 : 0 ≤ (x5_3 : Int) := of_decide_eq_true (by first | (with_reducible assumption) | assumption); have q366 : x5_3 < ((rd_L4 l0 x4_1).length : Int) := of_decide_eq_true (by first | (with_reducible assumption) | assumption); obtain ⟨ad366, e366, hx366_0, hx366_1⟩ := at_T38 HR365_0.out x5_3 p366 q366; cases e366; have hn366_0 : ad366.block ≠ gb364 := Nat.ne_of_lt (Nat.lt_of_lt_of_le (by have := World.block_lt_of_cell? _ _ hx366_0; first | rwa [add_block] at this | exact this) GW364.out); have hn366_1 : ad366.block ≠ gb364 := Nat.ne_of_lt (Nat.lt_of_lt_of_le (by have := World.block_lt_of_cell? _ _ hx366_0; first | rwa [add_block] at this | exact this) GW364.out); replace hx366_0 := (HB.out.cell (World.block_lt_of_cell? w _ hx366_0)).trans hx366_0; replace hx366_1 := (HB.out.cell (World.block_lt_of_cell? w _ hx366_1)).trans hx366_1; replace hx366_0 := (cell_far (p := ⟨gb364, 0, none⟩) (by first | (rw [add_block]; exact hn366_0) | (show (Addr.add _ _).block ≠ _; rw [add_block]; exact hn366_0) | exact hn366_0) (.string t361)).trans hx366_0; replace hx366_1 := (cell_far (p := ⟨gb364, 0, none⟩) (by first | (rw [add_block]; exact hn366_0) | (show (Addr.add _ _).block ≠ _; rw [add_block]; exact hn366_0) | exact hn366_0) (.string t361)).trans hx366_1; replace hx366_0 := (cell_far (p := ⟨gb364, 1, none⟩) (by first | (rw [add_block]; exact hn366_1) | (show (Addr.add _ _).block ≠ _; rw [add_block]; exact hn366_1) | exact hn366_1) (.string t362)).trans hx366_0; replace hx366_1 := (cell_far (p := ⟨gb364, 1, none⟩) (by first | (rw [add_block]; exact hn366_1) | (show (Addr.add _ _).block ≠ _; rw [add_block]; exact hn366_1) | exact hn366_1) (.string t362)).trans hx366_1; (try have hy366_0 := fun (n_ : Nat) => (show ((((w25.drewN n_).setCell ⟨gb364, 0, none⟩ (.string t361)).setCell ⟨gb364, 1, none⟩ (.string t362))).cell? _ = some _ from hx366_0)); (try have hy366_1 := fun (n_ : Nat) => (show ((((w25.drewN n_).setCell ⟨gb364, 0, none⟩ (.string t361)).setCell ⟨gb364, 1, none⟩ (.string t362))).cell? _ = some _ from hx366_1)); clear hn366_0; clear hn366_1; replace p366 := eq_true p366; replace q366 := eq_true q366)); try go_wp2_with (first | (go_at_call 19; (with_reducible refine (spec_l6Term.calls k3 (((rd_T38 (rd_L4 l0 x4_1) x5_3).f0) ++ ((rd_T38 (rd_L4 l0 x4_1) x5_3).f1)) t361 t362 true _ A13.out).mono ?_); rintro e w24 ⟨rfl, hb⟩; have n0_ := Aside0.mk (below_step (by repeat (first | (with_reducible first | exact HB.out | apply below_alloc | apply pw_below_drewN | apply below_drew1) | exact HB.out)) hb); clear HB; have HB := n0_; clear n0_; (try clear hb); (try clear hb2); (try clear hk); (try clear hi); (try clear A13)) | ((with_reducible refine gate_dst (N := 7) rfl ?_); (try (refine gate_guard (by rfl) ?_; dsimp only)); refine box_event ?hg (N := 7) ?hd (cs := #[.string (⟨#[]⟩ : ByteArray), .string (⟨#[]⟩ : ByteArray)]) (t := 38) ?hr ?_; (case hd => rfl); (case hg => rfl); (case hr => first | (go_simp; done) | (go_simp; rfl)); intro gb364 hg w25 hbox hb; have n0_ := Aside0.mk (below_step (by repeat (first | (with_reducible first | exact HB.out | apply below_alloc | apply pw_below_drewN | apply below_drew1) | exact HB.out)) hb); have n1_ := Aside0.mk (hbox); have n2_ := Aside0.mk ((by rw [hg]; exact (below_size (by repeat (first | (with_reducible first | exact HB.out | apply below_alloc | apply pw_below_drewN | apply below_drew1) | exact HB.out))) : w.heap.size ≤ gb364)); have n3_ := Aside0.mk ((by rw [hg]; exact (below_size (by repeat (first | (with_reducible first | exact HB.out | apply below_alloc | apply pw_below_drewN | apply below_drew1) | exact HB.out))) : w.heap.size ≤ gb364)); clear HB; have HB := n0_; have BK364 := n1_; have GW364 := n2_; have GE364 := n3_; clear n0_ n1_ n2_ n3_; clear hb hbox hg; have hcz26_0 : w25.cell? ⟨gb364, 0, none⟩ = some (.string (⟨#[]⟩ : ByteArray)) := (blk_cell BK364.out 0).trans rfl; have hcz26_1 : w25.cell? ⟨gb364, 1, none⟩ = some (.string (⟨#[]⟩ : ByteArray)) := (blk_cell BK364.out 1).trans rfl; have hfz26_0 := blk_frozen BK364.out 0; have hfz26_1 := blk_frozen BK364.out 1; have p365 : 0 ≤ (x4_1 : Int) := of_decide_eq_true (by first | (with_reducible assumption) | assumption); have q365 : x4_1 < (l0.length : Int) := of_decide_eq_true (by first | (with_reducible assumption) | assumption); obtain ⟨ad365, A365_0, c365_0, e365, hx365_0, hl365_0, hi365_0⟩ := at_L4 HR0.out x4_1 p365 q365; obtain rfl : ad356 = ad365 := (by injection e365); have hn365_0 : ad356.block ≠ gb364 := Nat.ne_of_lt (Nat.lt_of_lt_of_le (by have := World.block_lt_of_cell? _ _ hx365_0; first | rwa [add_block] at this | exact this) GW364.out); have hn365_1 : ad356.block ≠ gb364 := Nat.ne_of_lt (Nat.lt_of_lt_of_le (by have := World.block_lt_of_cell? _ _ hx365_0; first | rwa [add_block] at this | exact this) GW364.out); replace hx365_0 := (HB.out.cell (World.block_lt_of_cell? w _ hx365_0)).trans hx365_0; have HR365_0 := Aside0.mk hi365_0; have HC365_0 := Aside0.mk hl365_0; clear hi365_0 hl365_0; replace hx365_0 := (cell_far (p := ⟨gb364, 0, none⟩) (by first | (rw [add_block]; exact hn365_0) | (show (Addr.add _ _).block ≠ _; rw [add_block]; exact hn365_0) | exact hn365_0) (.string t361)).trans hx365_0; replace hx365_0 := (cell_far (p := ⟨gb364, 1, none⟩) (by first | (rw [add_block]; exact hn365_1) | (show (Addr.add _ _).block ≠ _; rw [add_block]; exact hn365_1) | exact hn365_1) (.string t362)).trans hx365_0; (try have hy365_0 := fun (n_ : Nat) => (show ((((w25.drewN n_).setCell ⟨gb364, 0, none⟩ (.string t361)).setCell ⟨gb364, 1, none⟩ (.string t362))).cell? _ = some _ from hx365_0)); clear hn365_0; clear hn365_1; replace p365 := eq_true p365; replace q365 := eq_true q365; have p366 : 0 ≤ (x5_3 : Int) := of_decide_eq_true (by first | (with_reducible assumption) | assumption); have q366 : x5_3 < ((rd_L4 l0 x4_1).length : Int) := of_decide_eq_true (by first | (with_reducible assumption) | assumption); obtain ⟨ad366, e366, hx366_0, hx366_1⟩ := at_T38 HR365_0.out x5_3 p366 q366; cases e366; have hn366_0 : ad366.block ≠ gb364 := Nat.ne_of_lt (Nat.lt_of_lt_of_le (by have := World.block_lt_of_cell? _ _ hx366_0; first | rwa [add_block] at this | exact this) GW364.out); have hn366_1 : ad366.block ≠ gb364 := Nat.ne_of_lt (Nat.lt_of_lt_of_le (by have := World.block_lt_of_cell? _ _ hx366_0; first | rwa [add_block] at this | exact this) GW364.out); replace hx366_0 := (HB.out.cell (World.block_lt_of_cell? w _ hx366_0)).trans hx366_0; replace hx366_1 := (HB.out.cell (World.block_lt_of_cell? w _ hx366_1)).trans hx366_1; replace hx366_0 := (cell_far (p := ⟨gb364, 0, none⟩) (by first | (rw [add_block]; exact hn366_0) | (show (Addr.add _ _).block ≠ _; rw [add_block]; exact hn366_0) | exact hn366_0) (.string t361)).trans hx366_0; replace hx366_1 := (cell_far (p := ⟨gb364, 0, none⟩) (by first | (rw [add_block]; exact hn366_0) | (show (Addr.add _ _).block ≠ _; rw [add_block]; exact hn366_0) | exact hn366_0) (.string t361)).trans hx366_1; replace hx366_0 := (cell_far (p := ⟨gb364, 1, none⟩) (by first | (rw [add_block]; exact hn366_1) | (show (Addr.add _ _).block ≠ _; rw [add_block]; exact hn366_1) | exact hn366_1) (.string t362)).trans hx366_0; replace hx366_1 := (cell_far (p := ⟨gb364, 1, none⟩) (by first | (rw [add_block]; exact hn366_1) | (show (Addr.add _ _).block ≠ _; rw [add_block]; exact hn366_1) | exact hn366_1) (.string t362)).trans hx366_1; (try have hy366_0 := fun (n_ : Nat) => (show ((((w25.drewN n_).setCell ⟨gb364, 0, none⟩ (.string t361)).setCell ⟨gb364, 1, none⟩ (.string t362))).cell? _ = some _ from hx366_0)); (try have hy366_1 := fun (n_ : Nat) => (show ((((w25.drewN n_).setCell ⟨gb364, 0, none⟩ (.string t361)).setCell ⟨gb364, 1, none⟩ (.string t362))).cell? _ = some _ from hx366_1)); clear hn366_0; clear hn366_1; replace p366 := eq_true p366; replace q366 := eq_true q366)))
                                      go_roundg k3
                                      case measure => have := HK1.out; have := HJ2.out; have := HK3.out; omega
                                      case rel => exact ⟨((x3_3 ++ (⟨#[32]⟩ : ByteArray)) ++ (((rd_T38 (rd_L4 l0 x4_1) x5_3).f0) ++ ((rd_T38 (rd_L4 l0 x4_1) x5_3).f1))), (wrap64 (x5_3 + 1)), (by first | rfl | (simp; done) | (simp [*]; done)), (by first | rfl | (simp; done) | (simp [*]; done)), H', ⟨by have := HK1.out; have := HJ2.out; have := HK3.out; omega⟩, ⟨by repeat (first | (with_reducible first | exact HB.out | apply below_alloc | apply pw_below_drewN | apply below_drew1 | refine below_set ?_ GE364.out) | exact HB.out)⟩⟩
                                    · rw [if_neg c23] at H
                                      exact absurd H (by simp)
                              · replace c14 := Bool.eq_false_iff.mpr c14
                                subst c14
                                have H1 : (some (⟨#[]⟩ : ByteArray)) = some r := by rw [if_neg (show ¬ (false = true) by decide)] at H; exact H
                                clear H
                                have H := H1
                                clear H1
                                obtain rfl := Option.some.inj H
                                have p356 : 0 ≤ (x4_1 : Int) := of_decide_eq_true (by first | (with_reducible assumption) | assumption)
                                have q356 : x4_1 < (l0.length : Int) := of_decide_eq_true (by first | (with_reducible assumption) | assumption)
                                obtain ⟨ad356, A356_0, c356_0, e356, hx356_0, hl356_0, hi356_0⟩ := at_L4 HR0.out x4_1 p356 q356
                                cases e356
                                replace hx356_0 := (HB.out.cell (World.block_lt_of_cell? w _ hx356_0)).trans hx356_0
                                have HR356_0 := Aside0.mk hi356_0
                                have HC356_0 := Aside0.mk hl356_0
                                clear hi356_0 hl356_0
                                replace p356 := eq_true p356
                                replace q356 := eq_true q356
                                have p357 : 0 ≤ (x4_1 : Int) := of_decide_eq_true (by first | (with_reducible assumption) | assumption)
                                have q357 : x4_1 < (l0.length : Int) := of_decide_eq_true (by first | (with_reducible assumption) | assumption)
                                obtain ⟨ad357, A357_0, c357_0, e357, hx357_0, hl357_0, hi357_0⟩ := at_L4 HR0.out x4_1 p357 q357
                                obtain rfl : ad356 = ad357 := (by injection e357)
                                replace hx357_0 := (HB.out.cell (World.block_lt_of_cell? w _ hx357_0)).trans hx357_0
                                have HR357_0 := Aside0.mk hi357_0
                                have HC357_0 := Aside0.mk hl357_0
                                clear hi357_0 hl357_0
                                replace p357 := eq_true p357
                                replace q357 := eq_true q357
                                have ea_ := Option.some.inj (hx356_0.symm.trans hx357_0)
                                injection ea_ with ea_ en_ ec_
                                subst ea_
                                subst ec_
                                clear en_
                                have p358 : 0 ≤ (x5_3 : Int) := of_decide_eq_true (by first | (with_reducible assumption) | assumption)
                                have q358 : x5_3 < ((rd_L4 l0 x4_1).length : Int) := of_decide_eq_true (by first | (with_reducible assumption) | assumption)
                                obtain ⟨ad358, e358, hx358_0, hx358_1⟩ := at_T38 HR357_0.out x5_3 p358 q358
                                cases e358
                                replace hx358_0 := (HB.out.cell (World.block_lt_of_cell? w _ hx358_0)).trans hx358_0
                                replace hx358_1 := (HB.out.cell (World.block_lt_of_cell? w _ hx358_1)).trans hx358_1
                                replace p358 := eq_true p358
                                replace q358 := eq_true q358
                                have p359 : 0 ≤ (x4_1 : Int) := of_decide_eq_true (by first | (with_reducible assumption) | assumption)
                                have q359 : x4_1 < (l0.length : Int) := of_decide_eq_true (by first | (with_reducible assumption) | assumption)
                                obtain ⟨ad359, A359_0, c359_0, e359, hx359_0, hl359_0, hi359_0⟩ := at_L4 HR0.out x4_1 p359 q359
                                obtain rfl : ad356 = ad359 := (by injection e359)
                                replace hx359_0 := (HB.out.cell (World.block_lt_of_cell? w _ hx359_0)).trans hx359_0
                                have HR359_0 := Aside0.mk hi359_0
                                have HC359_0 := Aside0.mk hl359_0
                                clear hi359_0 hl359_0
                                replace p359 := eq_true p359
                                replace q359 := eq_true q359
                                have ea_ := Option.some.inj (hx356_0.symm.trans hx359_0)
                                injection ea_ with ea_ en_ ec_
                                subst ea_
                                subst ec_
                                clear en_
                                have p360 : 0 ≤ (x5_3 : Int) := of_decide_eq_true (by first | (with_reducible assumption) | assumption)
                                have q360 : x5_3 < ((rd_L4 l0 x4_1).length : Int) := of_decide_eq_true (by first | (with_reducible assumption) | assumption)
                                obtain ⟨ad360, e360, hx360_0, hx360_1⟩ := at_T38 HR359_0.out x5_3 p360 q360
                                cases e360
                                replace hx360_0 := (HB.out.cell (World.block_lt_of_cell? w _ hx360_0)).trans hx360_0
                                replace hx360_1 := (HB.out.cell (World.block_lt_of_cell? w _ hx360_1)).trans hx360_1
                                replace p360 := eq_true p360
                                replace q360 := eq_true q360
                                go_wp2_with (first | (go_at_call 19; (with_reducible refine (spec_l6Term.calls k3 (((rd_T38 (rd_L4 l0 x4_1) x5_3).f0) ++ ((rd_T38 (rd_L4 l0 x4_1) x5_3).f1)) t361 t362 false _ A13.out).mono ?_); rintro e w27 ⟨rfl, hb⟩; have n0_ := Aside0.mk (below_step (by repeat (first | (with_reducible first | exact HB.out | apply below_alloc | apply pw_below_drewN | apply below_drew1) | exact HB.out)) hb); clear HB; have HB := n0_; clear n0_; (try clear hb); (try clear hb2); (try clear hk); (try clear hi)) | ((with_reducible refine gate_dst (N := 7) rfl ?_); (try (refine gate_guard (by rfl) ?_; dsimp only)); refine box_event ?hg (N := 7) ?hd (cs := #[.string (⟨#[]⟩ : ByteArray), .string (⟨#[]⟩ : ByteArray)]) (t := 38) ?hr ?_; (case hd => rfl); (case hg => rfl); (case hr => first | (go_simp; done) | (go_simp; rfl)); intro gb364 hg w28 hbox hb; have n0_ := Aside0.mk (below_step (by repeat (first | (with_reducible first | exact HB.out | apply below_alloc | apply pw_below_drewN | apply below_drew1) | exact HB.out)) hb); have n1_ := Aside0.mk (hbox); have n2_ := Aside0.mk ((by rw [hg]; exact (below_size (by repeat (first | (with_reducible first | exact HB.out | apply below_alloc | apply pw_below_drewN | apply below_drew1) | exact HB.out))) : w.heap.size ≤ gb364)); have n3_ := Aside0.mk ((by rw [hg]; exact (below_size (by repeat (first | (with_reducible first | exact HB.out | apply below_alloc | apply pw_below_drewN | apply below_drew1) | exact HB.out))) : w.heap.size ≤ gb364)); clear HB; have HB := n0_; have BK364 := n1_; have GW364 := n2_; have GE364 := n3_; clear n0_ n1_ n2_ n3_; clear hb hbox hg; have hcz29_0 : w28.cell? ⟨gb364, 0, none⟩ = some (.string (⟨#[]⟩ : ByteArray)) := (blk_cell BK364.out 0).trans rfl; have hcz29_1 : w28.cell? ⟨gb364, 1, none⟩ = some (.string (⟨#[]⟩ : ByteArray)) := (blk_cell BK364.out 1).trans rfl; have hfz29_0 := blk_frozen BK364.out 0; have hfz29_1 := blk_frozen BK364.out 1))
                                repeat (go_quiet (first | (go_at_call 19; (with_reducible refine (spec_l6Term.calls k3 (((rd_T38 (rd_L4 l0 x4_1) x5_3).f0) ++ ((rd_T38 (rd_L4 l0 x4_1) x5_3).f1)) t361 t362 false _ A13.out).mono ?_); rintro e w27 ⟨rfl, hb⟩; have n0_ := Aside0.mk (below_step (by repeat (first | (with_reducible first | exact HB.out | apply below_alloc | apply pw_below_drewN | apply below_drew1) | exact HB.out)) hb); clear HB; have HB := n0_; clear n0_; (try clear hb); (try clear hb2); (try clear hk); (try clear hi); (try clear A13)) | ((with_reducible refine gate_dst (N := 7) rfl ?_); (try (refine gate_guard (by rfl) ?_; dsimp only)); refine box_event ?hg (N := 7) ?hd (cs := #[.string (⟨#[]⟩ : ByteArray), .string (⟨#[]⟩ : ByteArray)]) (t := 38) ?hr ?_; (case hd => rfl); (case hg => rfl); (case hr => first | (go_simp; done) | (go_simp; rfl)); intro gb364 hg w28 hbox hb; have n0_ := Aside0.mk (below_step (by repeat (first | (with_reducible first | exact HB.out | apply below_alloc | apply pw_below_drewN | apply below_drew1) | exact HB.out)) hb); have n1_ := Aside0.mk (hbox); have n2_ := Aside0.mk ((by rw [hg]; exact (below_size (by repeat (first | (with_reducible first | exact HB.out | apply below_alloc | apply pw_below_drewN | apply below_drew1) | exact HB.out))) : w.heap.size ≤ gb364)); have n3_ := Aside0.mk ((by rw [hg]; exact (below_size (by repeat (first | (with_reducible first | exact HB.out | apply below_alloc | apply pw_below_drewN | apply below_drew1) | exact HB.out))) : w.heap.size ≤ gb364)); clear HB; have HB := n0_; have BK364 := n1_; have GW364 := n2_; have GE364 := n3_; clear n0_ n1_ n2_ n3_; clear hb hbox hg; have hcz29_0 : w28.cell? ⟨gb364, 0, none⟩ = some (.string (⟨#[]⟩ : ByteArray)) := (blk_cell BK364.out 0).trans rfl; have hcz29_1 : w28.cell? ⟨gb364, 1, none⟩ = some (.string (⟨#[]⟩ : ByteArray)) := (blk_cell BK364.out 1).trans rfl; have hfz29_0 := blk_frozen BK364.out 0; have hfz29_1 := blk_frozen BK364.out 1)); try go_wp2_with (first | (go_at_call 19; (with_reducible refine (spec_l6Term.calls k3 (((rd_T38 (rd_L4 l0 x4_1) x5_3).f0) ++ ((rd_T38 (rd_L4 l0 x4_1) x5_3).f1)) t361 t362 false _ A13.out).mono ?_); rintro e w27 ⟨rfl, hb⟩; have n0_ := Aside0.mk (below_step (by repeat (first | (with_reducible first | exact HB.out | apply below_alloc | apply pw_below_drewN | apply below_drew1) | exact HB.out)) hb); clear HB; have HB := n0_; clear n0_; (try clear hb); (try clear hb2); (try clear hk); (try clear hi); (try clear A13)) | ((with_reducible refine gate_dst (N := 7) rfl ?_); (try (refine gate_guard (by rfl) ?_; dsimp only)); refine box_event ?hg (N := 7) ?hd (cs := #[.string (⟨#[]⟩ : ByteArray), .string (⟨#[]⟩ : ByteArray)]) (t := 38) ?hr ?_; (case hd => rfl); (case hg => rfl); (case hr => first | (go_simp; done) | (go_simp; rfl)); intro gb364 hg w28 hbox hb; have n0_ := Aside0.mk (below_step (by repeat (first | (with_reducible first | exact HB.out | apply below_alloc | apply pw_below_drewN | apply below_drew1) | exact HB.out)) hb); have n1_ := Aside0.mk (hbox); have n2_ := Aside0.mk ((by rw [hg]; exact (below_size (by repeat (first | (with_reducible first | exact HB.out | apply below_alloc | apply pw_below_drewN | apply below_drew1) | exact HB.out))) : w.heap.size ≤ gb364)); have n3_ := Aside0.mk ((by rw [hg]; exact (below_size (by repeat (first | (with_reducible first | exact HB.out | apply below_alloc | apply pw_below_drewN | apply below_drew1) | exact HB.out))) : w.heap.size ≤ gb364)); clear HB; have HB := n0_; have BK364 := n1_; have GW364 := n2_; have GE364 := n3_; clear n0_ n1_ n2_ n3_; clear hb hbox hg; have hcz29_0 : w28.cell? ⟨gb364, 0, none⟩ = some (.string (⟨#[]⟩ : ByteArray)) := (blk_cell BK364.out 0).trans rfl; have hcz29_1 : w28.cell? ⟨gb364, 1, none⟩ = some (.string (⟨#[]⟩ : ByteArray)) := (blk_cell BK364.out 1).trans rfl; have hfz29_0 := blk_frozen BK364.out 0; have hfz29_1 := blk_frozen BK364.out 1)))
                                go_ret
                                exact ⟨by first | rfl | (simp [errW_none, errW_some] <;> rfl) | (simp [*, errW_none, errW_some] <;> rfl), by repeat (first | (with_reducible first | exact HB.out | apply below_alloc | apply pw_below_drewN | apply below_drew1 | refine below_set ?_ GE364.out) | exact HB.out)⟩
                            · rw [if_neg c12] at H
                              exact absurd H (by simp)
                          · rw [if_neg c11] at H
                            exact absurd H (by simp)
                        · rw [if_neg c10] at H
                          exact absurd H (by simp)
                      · rw [if_neg c9] at H
                        have c9b0 : decide (0 < x5_3) = false := decide_eq_false c9
                        clear c9
                        by_cases c30 : 0 ≤ x5_3
                        · rw [if_pos c30] at H
                          have c30b0 : decide (0 ≤ x5_3) = true := decide_eq_true c30
                          clear c30
                          by_cases c31 : ((rd_T38 (rd_L4 l0 x4_1) x5_3).f0).size + ((rd_T38 (rd_L4 l0 x4_1) x5_3).f1).size ≤ 9223372036854775807
                          · rw [if_pos c31] at H
                            have c31b0 := eq_true c31
                            have c31b1 : decide (((rd_T38 (rd_L4 l0 x4_1) x5_3).f0).size + ((rd_T38 (rd_L4 l0 x4_1) x5_3).f1).size ≤ 9223372036854775807) = true := decide_eq_true c31
                            try have c31b2 : (9223372036854775807 < ((rd_T38 (rd_L4 l0 x4_1) x5_3).f0).size + ((rd_T38 (rd_L4 l0 x4_1) x5_3).f1).size) = False := eq_false (Nat.not_lt.2 c31)
                            replace H := Option.bind_eq_some_iff.mp H
                            obtain ⟨⟨t371, t372, t373⟩, A320, H⟩ := H
                            replace H : (if t373 = true then (if (!(t371.toList == (((rd_T38 (rd_L4 l0 x4_1) x5_3).f0).toList)) || (!(t372.toList == (((rd_T38 (rd_L4 l0 x4_1) x5_3).f1).toList)))) = true then (some (⟨#[]⟩ : ByteArray)) else (if (wrap64 ((x3_3.size : Int) + ((((rd_T38 (rd_L4 l0 x4_1) x5_3).f0) ++ ((rd_T38 (rd_L4 l0 x4_1) x5_3).f1)).size : Int))) > 200 then (some (⟨#[]⟩ : ByteArray)) else (if x3_3.size + (((rd_T38 (rd_L4 l0 x4_1) x5_3).f0) ++ ((rd_T38 (rd_L4 l0 x4_1) x5_3).f1)).size ≤ 9223372036854775807 then (spec_ShowConstraint.l1 k3 l0 (x3_3 ++ (((rd_T38 (rd_L4 l0 x4_1) x5_3).f0) ++ ((rd_T38 (rd_L4 l0 x4_1) x5_3).f1))) x4_1 (wrap64 (x5_3 + 1))) else (none)))) else (some (⟨#[]⟩ : ByteArray))) = some r := H
                            have A32 := Aside0.mk A320
                            clear A320
                            by_cases c33 : t373 = true
                            · subst c33
                              have H1 : (if (!(t371.toList == (((rd_T38 (rd_L4 l0 x4_1) x5_3).f0).toList)) || (!(t372.toList == (((rd_T38 (rd_L4 l0 x4_1) x5_3).f1).toList)))) = true then (some (⟨#[]⟩ : ByteArray)) else (if (wrap64 ((x3_3.size : Int) + ((((rd_T38 (rd_L4 l0 x4_1) x5_3).f0) ++ ((rd_T38 (rd_L4 l0 x4_1) x5_3).f1)).size : Int))) > 200 then (some (⟨#[]⟩ : ByteArray)) else (if x3_3.size + (((rd_T38 (rd_L4 l0 x4_1) x5_3).f0) ++ ((rd_T38 (rd_L4 l0 x4_1) x5_3).f1)).size ≤ 9223372036854775807 then (spec_ShowConstraint.l1 k3 l0 (x3_3 ++ (((rd_T38 (rd_L4 l0 x4_1) x5_3).f0) ++ ((rd_T38 (rd_L4 l0 x4_1) x5_3).f1))) x4_1 (wrap64 (x5_3 + 1))) else (none)))) = some r := by rw [if_pos rfl] at H; exact H
                              clear H
                              have H := H1
                              clear H1
                              by_cases c34 : (!(t371.toList == (((rd_T38 (rd_L4 l0 x4_1) x5_3).f0).toList)) || (!(t372.toList == (((rd_T38 (rd_L4 l0 x4_1) x5_3).f1).toList)))) = true
                              · rw [if_pos c34] at H
                                have c34b0 : (!(t371.toList == (((rd_T38 (rd_L4 l0 x4_1) x5_3).f0).toList)) || (!(t372.toList == (((rd_T38 (rd_L4 l0 x4_1) x5_3).f1).toList)))) = true := c34
                                clear c34
                                obtain rfl := Option.some.inj H
                                have p356 : 0 ≤ (x4_1 : Int) := of_decide_eq_true (by first | (with_reducible assumption) | assumption)
                                have q356 : x4_1 < (l0.length : Int) := of_decide_eq_true (by first | (with_reducible assumption) | assumption)
                                obtain ⟨ad356, A356_0, c356_0, e356, hx356_0, hl356_0, hi356_0⟩ := at_L4 HR0.out x4_1 p356 q356
                                cases e356
                                replace hx356_0 := (HB.out.cell (World.block_lt_of_cell? w _ hx356_0)).trans hx356_0
                                have HR356_0 := Aside0.mk hi356_0
                                have HC356_0 := Aside0.mk hl356_0
                                clear hi356_0 hl356_0
                                replace p356 := eq_true p356
                                replace q356 := eq_true q356
                                have p367 : 0 ≤ (x4_1 : Int) := of_decide_eq_true (by first | (with_reducible assumption) | assumption)
                                have q367 : x4_1 < (l0.length : Int) := of_decide_eq_true (by first | (with_reducible assumption) | assumption)
                                obtain ⟨ad367, A367_0, c367_0, e367, hx367_0, hl367_0, hi367_0⟩ := at_L4 HR0.out x4_1 p367 q367
                                obtain rfl : ad356 = ad367 := (by injection e367)
                                replace hx367_0 := (HB.out.cell (World.block_lt_of_cell? w _ hx367_0)).trans hx367_0
                                have HR367_0 := Aside0.mk hi367_0
                                have HC367_0 := Aside0.mk hl367_0
                                clear hi367_0 hl367_0
                                replace p367 := eq_true p367
                                replace q367 := eq_true q367
                                have ea_ := Option.some.inj (hx356_0.symm.trans hx367_0)
                                injection ea_ with ea_ en_ ec_
                                subst ea_
                                subst ec_
                                clear en_
                                have p368 : 0 ≤ (x5_3 : Int) := of_decide_eq_true (by first | (with_reducible assumption) | assumption)
                                have q368 : x5_3 < ((rd_L4 l0 x4_1).length : Int) := of_decide_eq_true (by first | (with_reducible assumption) | assumption)
                                obtain ⟨ad368, e368, hx368_0, hx368_1⟩ := at_T38 HR367_0.out x5_3 p368 q368
                                cases e368
                                replace hx368_0 := (HB.out.cell (World.block_lt_of_cell? w _ hx368_0)).trans hx368_0
                                replace hx368_1 := (HB.out.cell (World.block_lt_of_cell? w _ hx368_1)).trans hx368_1
                                replace p368 := eq_true p368
                                replace q368 := eq_true q368
                                have p369 : 0 ≤ (x4_1 : Int) := of_decide_eq_true (by first | (with_reducible assumption) | assumption)
                                have q369 : x4_1 < (l0.length : Int) := of_decide_eq_true (by first | (with_reducible assumption) | assumption)
                                obtain ⟨ad369, A369_0, c369_0, e369, hx369_0, hl369_0, hi369_0⟩ := at_L4 HR0.out x4_1 p369 q369
                                obtain rfl : ad356 = ad369 := (by injection e369)
                                replace hx369_0 := (HB.out.cell (World.block_lt_of_cell? w _ hx369_0)).trans hx369_0
                                have HR369_0 := Aside0.mk hi369_0
                                have HC369_0 := Aside0.mk hl369_0
                                clear hi369_0 hl369_0
                                replace p369 := eq_true p369
                                replace q369 := eq_true q369
                                have ea_ := Option.some.inj (hx356_0.symm.trans hx369_0)
                                injection ea_ with ea_ en_ ec_
                                subst ea_
                                subst ec_
                                clear en_
                                have p370 : 0 ≤ (x5_3 : Int) := of_decide_eq_true (by first | (with_reducible assumption) | assumption)
                                have q370 : x5_3 < ((rd_L4 l0 x4_1).length : Int) := of_decide_eq_true (by first | (with_reducible assumption) | assumption)
                                obtain ⟨ad370, e370, hx370_0, hx370_1⟩ := at_T38 HR369_0.out x5_3 p370 q370
                                cases e370
                                replace hx370_0 := (HB.out.cell (World.block_lt_of_cell? w _ hx370_0)).trans hx370_0
                                replace hx370_1 := (HB.out.cell (World.block_lt_of_cell? w _ hx370_1)).trans hx370_1
                                replace p370 := eq_true p370
                                replace q370 := eq_true q370
                                go_wp2_with (first | (go_at_call 19; (with_reducible refine (spec_l6Term.calls k3 (((rd_T38 (rd_L4 l0 x4_1) x5_3).f0) ++ ((rd_T38 (rd_L4 l0 x4_1) x5_3).f1)) t371 t372 true _ A32.out).mono ?_); rintro e w35 ⟨rfl, hb⟩; have n0_ := Aside0.mk (below_step (by repeat (first | (with_reducible first | exact HB.out | apply below_alloc | apply pw_below_drewN | apply below_drew1) | exact HB.out)) hb); clear HB; have HB := n0_; clear n0_; (try clear hb); (try clear hb2); (try clear hk); (try clear hi)) | ((with_reducible refine gate_dst (N := 7) rfl ?_); (try (refine gate_guard (by rfl) ?_; dsimp only)); refine box_event ?hg (N := 7) ?hd (cs := #[.string (⟨#[]⟩ : ByteArray), .string (⟨#[]⟩ : ByteArray)]) (t := 38) ?hr ?_; (case hd => rfl); (case hg => rfl); (case hr => first | (go_simp; done) | (go_simp; rfl)); intro gb374 hg w36 hbox hb; have n0_ := Aside0.mk (below_step (by repeat (first | (with_reducible first | exact HB.out | apply below_alloc | apply pw_below_drewN | apply below_drew1) | exact HB.out)) hb); have n1_ := Aside0.mk (hbox); have n2_ := Aside0.mk ((by rw [hg]; exact (below_size (by repeat (first | (with_reducible first | exact HB.out | apply below_alloc | apply pw_below_drewN | apply below_drew1) | exact HB.out))) : w.heap.size ≤ gb374)); have n3_ := Aside0.mk ((by rw [hg]; exact (below_size (by repeat (first | (with_reducible first | exact HB.out | apply below_alloc | apply pw_below_drewN | apply below_drew1) | exact HB.out))) : w.heap.size ≤ gb374)); clear HB; have HB := n0_; have BK374 := n1_; have GW374 := n2_; have GE374 := n3_; clear n0_ n1_ n2_ n3_; clear hb hbox hg; have hcz37_0 : w36.cell? ⟨gb374, 0, none⟩ = some (.string (⟨#[]⟩ : ByteArray)) := (blk_cell BK374.out 0).trans rfl; have hcz37_1 : w36.cell? ⟨gb374, 1, none⟩ = some (.string (⟨#[]⟩ : ByteArray)) := (blk_cell BK374.out 1).trans rfl; have hfz37_0 := blk_frozen BK374.out 0; have hfz37_1 := blk_frozen BK374.out 1; have p375 : 0 ≤ (x4_1 : Int) := of_decide_eq_true (by first | (with_reducible assumption) | assumption); have q375 : x4_1 < (l0.length : Int) := of_decide_eq_true (by first | (with_reducible assumption) | assumption); obtain ⟨ad375, A375_0, c375_0, e375, hx375_0, hl375_0, hi375_0⟩ := at_L4 HR0.out x4_1 p375 q375; obtain rfl : ad356 = ad375 := (by injection e375); have hn375_0 : ad356.block ≠ gb374 := Nat.ne_of_lt (Nat.lt_of_lt_of_le (by have := World.block_lt_of_cell? _ _ hx375_0; first | rwa [add_block] at this | exact this) GW374.out); have hn375_1 : ad356.block ≠ gb374 := Nat.ne_of_lt (Nat.lt_of_lt_of_le (by have := World.block_lt_of_cell? _ _ hx375_0; first | rwa [add_block] at this | exact this) GW374.out); replace hx375_0 := (HB.out.cell (World.block_lt_of_cell? w _ hx375_0)).trans hx375_0; have HR375_0 := Aside0.mk hi375_0; have HC375_0 := Aside0.mk hl375_0; clear hi375_0 hl375_0; replace hx375_0 := (cell_far (p := ⟨gb374, 0, none⟩) (by first | (rw [add_block]; exact hn375_0) | (show (Addr.add _ _).block ≠ _; rw [add_block]; exact hn375_0) | exact hn375_0) (.string t371)).trans hx375_0; replace hx375_0 := (cell_far (p := ⟨gb374, 1, none⟩) (by first | (rw [add_block]; exact hn375_1) | (show (Addr.add _ _).block ≠ _; rw [add_block]; exact hn375_1) | exact hn375_1) (.string t372)).trans hx375_0; (try have hy375_0 := fun (n_ : Nat) => (show ((((w36.drewN n_).setCell ⟨gb374, 0, none⟩ (.string t371)).setCell ⟨gb374, 1, none⟩ (.string t372))).cell? _ = some _ from hx375_0)); clear hn375_0; clear hn375_1; replace p375 := eq_true p375; replace q375 := eq_true q375; have p376 : 0 ≤ (x5_3 : Int) := of_decide_eq_true (by first | (with_reducible assumption) | assumption); have q376 : x5_3 < ((rd_L4 l0 x4_1).length : Int) := of_decide_eq_true (by first | (with_reducible assumption) | assumption); obtain ⟨ad376, e376, hx376_0, hx376_1⟩ := at_T38 HR375_0.out x5_3 p376 q376; cases e376; have hn376_0 : ad376.block ≠ gb374 := Nat.ne_of_lt (Nat.lt_of_lt_of_le (by have := World.block_lt_of_cell? _ _ hx376_0; first | rwa [add_block] at this | exact this) GW374.out); have hn376_1 : ad376.block ≠ gb374 := Nat.ne_of_lt (Nat.lt_of_lt_of_le (by have := World.block_lt_of_cell? _ _ hx376_0; first | rwa [add_block] at this | exact this) GW374.out); replace hx376_0 := (HB.out.cell (World.block_lt_of_cell? w _ hx376_0)).trans hx376_0; replace hx376_1 := (HB.out.cell (World.block_lt_of_cell? w _ hx376_1)).trans hx376_1; replace hx376_0 := (cell_far (p := ⟨gb374, 0, none⟩) (by first | (rw [add_block]; exact hn376_0) | (show (Addr.add _ _).block ≠ _; rw [add_block]; exact hn376_0) | exact hn376_0) (.string t371)).trans hx376_0; replace hx376_1 := (cell_far (p := ⟨gb374, 0, none⟩) (by first | (rw [add_block]; exact hn376_0) | (show (Addr.add _ _).block ≠ _; rw [add_block]; exact hn376_0) | exact hn376_0) (.string t371)).trans hx376_1; replace hx376_0 := (cell_far (p := ⟨gb374, 1, none⟩) (by first | (rw [add_block]; exact hn376_1) | (show (Addr.add _ _).block ≠ _; rw [add_block]; exact hn376_1) | exact hn376_1) (.string t372)).trans hx376_0; replace hx376_1 := (cell_far (p := ⟨gb374, 1, none⟩) (by first | (rw [add_block]; exact hn376_1) | (show (Addr.add _ _).block ≠ _; rw [add_block]; exact hn376_1) | exact hn376_1) (.string t372)).trans hx376_1; (try have hy376_0 := fun (n_ : Nat) => (show ((((w36.drewN n_).setCell ⟨gb374, 0, none⟩ (.string t371)).setCell ⟨gb374, 1, none⟩ (.string t372))).cell? _ = some _ from hx376_0)); (try have hy376_1 := fun (n_ : Nat) => (show ((((w36.drewN n_).setCell ⟨gb374, 0, none⟩ (.string t371)).setCell ⟨gb374, 1, none⟩ (.string t372))).cell? _ = some _ from hx376_1)); clear hn376_0; clear hn376_1; replace p376 := eq_true p376; replace q376 := eq_true q376))
                                repeat (go_quiet (first | (go_at_call 19; (with_reducible refine (spec_l6Term.calls k3 (((rd_T38 (rd_L4 l0 x4_1) x5_3).f0) ++ ((rd_T38 (rd_L4 l0 x4_1) x5_3).f1)) t371 t372 true _ A32.out).mono ?_); rintro e w35 ⟨rfl, hb⟩; have n0_ := Aside0.mk (below_step (by repeat (first | (with_reducible first | exact HB.out | apply below_alloc | apply pw_below_drewN | apply below_drew1) | exact HB.out)) hb); clear HB; have HB := n0_; clear n0_; (try clear hb); (try clear hb2); (try clear hk); (try clear hi); (try clear A32)) | ((with_reducible refine gate_dst (N := 7) rfl ?_); (try (refine gate_guard (by rfl) ?_; dsimp only)); refine box_event ?hg (N := 7) ?hd (cs := #[.string (⟨#[]⟩ : ByteArray), .string (⟨#[]⟩ : ByteArray)]) (t := 38) ?hr ?_; (case hd => rfl); (case hg => rfl); (case hr => first | (go_simp; done) | (go_simp; rfl)); intro gb374 hg w36 hbox hb; have n0_ := Aside0.mk (below_step (by repeat (first | (with_reducible first | exact HB.out | apply below_alloc | apply pw_below_drewN | apply below_drew1) | exact HB.out)) hb); have n1_ := Aside0.mk (hbox); have n2_ := Aside0.mk ((by rw [hg]; exact (below_size (by repeat (first | (with_reducible first | exact HB.out | apply below_alloc | apply pw_below_drewN | apply below_drew1) | exact HB.out))) : w.heap.size ≤ gb374)); have n3_ := Aside0.mk ((by rw [hg]; exact (below_size (by repeat (first | (with_reducible first | exact HB.out | apply below_alloc | apply pw_below_drewN | apply below_drew1) | exact HB.out))) : w.heap.size ≤ gb374)); clear HB; have HB := n0_; have BK374 := n1_; have GW374 := n2_; have GE374 := n3_; clear n0_ n1_ n2_ n3_; clear hb hbox hg; have hcz37_0 : w36.cell? ⟨gb374, 0, none⟩ = some (.string (⟨#[]⟩ : ByteArray)) := (blk_cell BK374.out 0).trans rfl; have hcz37_1 : w36.cell? ⟨gb374, 1, none⟩ = some (.string (⟨#[]⟩ : ByteArray)) := (blk_cell BK374.out 1).trans rfl; have hfz37_0 := blk_frozen BK374.out 0; have hfz37_1 := blk_frozen BK374.out 1; have p375 : 0 ≤ (x4_1 : Int) := of_decide_eq_true (by first | (with_reducible assumption) | assumption); have q375 : x4_1 < (l0.length : Int) := of_decide_eq_true (by first | (with_reducible assumption) | assumption); obtain ⟨ad375, A375_0, c375_0, e375, hx375_0, hl375_0, hi375_0⟩ := at_L4 HR0.out x4_1 p375 q375; obtain rfl : ad356 = ad375 := (by injection e375); have hn375_0 : ad356.block ≠ gb374 := Nat.ne_of_lt (Nat.lt_of_lt_of_le (by have := World.block_lt_of_cell? _ _ hx375_0; first | rwa [add_block] at this | exact this) GW374.out); have hn375_1 : ad356.block ≠ gb374 := Nat.ne_of_lt (Nat.lt_of_lt_of_le (by have := World.block_lt_of_cell? _ _ hx375_0; first | rwa [add_block] at this | exact this) GW374.out); replace hx375_0 := (HB.out.cell (World.block_lt_of_cell? w _ hx375_0)).trans hx375_0; have HR375_0 := Aside0.mk hi375_0; have HC375_0 := Aside0.mk hl375_0; clear hi375_0 hl375_0; replace hx375_0 := (cell_far (p := ⟨gb374, 0, none⟩) (by first | (rw [add_block]; exact hn375_0) | (show (Addr.add _ _).block ≠ _; rw [add_block]; exact hn375_0) | exact hn375_0) (.string t371)).trans hx375_0; replace hx375_0 := (cell_far (p := ⟨gb374, 1, none⟩) (by first | (rw [add_block]; exact hn375_1) | (show (Addr.add _ _).block ≠ _; rw [add_block]; exact hn375_1) | exact hn375_1) (.string t372)).trans hx375_0; (try have hy375_0 := fun (n_ : Nat) => (show ((((w36.drewN n_).setCell ⟨gb374, 0, none⟩ (.string t371)).setCell ⟨gb374, 1, none⟩ (.string t372))).cell? _ = some _ from hx375_0)); clear hn375_0; clear hn375_1; replace p375 := eq_true p375; replace q375 := eq_true q375; have p376 : 0 ≤ (x5_3 : Int) := of_decide_eq_true (by first | (with_reducible assumption) | assumption); have q376 : x5_3 < ((rd_L4 l0 x4_1).length : Int) := of_decide_eq_true (by first | (with_reducible assumption) | assumption); obtain ⟨ad376, e376, hx376_0, hx376_1⟩ := at_T38 HR375_0.out x5_3 p376 q376; cases e376; have hn376_0 : ad376.block ≠ gb374 := Nat.ne_of_lt (Nat.lt_of_lt_of_le (by have := World.block_lt_of_cell? _ _ hx376_0; first | rwa [add_block] at this | exact this) GW374.out); have hn376_1 : ad376.block ≠ gb374 := Nat.ne_of_lt (Nat.lt_of_lt_of_le (by have := World.block_lt_of_cell? _ _ hx376_0; first | rwa [add_block] at this | exact this) GW374.out); replace hx376_0 := (HB.out.cell (World.block_lt_of_cell? w _ hx376_0)).trans hx376_0; replace hx376_1 := (HB.out.cell (World.block_lt_of_cell? w _ hx376_1)).trans hx376_1; replace hx376_0 := (cell_far (p := ⟨gb374, 0, none⟩) (by first | (rw [add_block]; exact hn376_0) | (show (Addr.add _ _).block ≠ _; rw [add_block]; exact hn376_0) | exact hn376_0) (.string t371)).trans hx376_0; replace hx376_1 := (cell_far (p := ⟨gb374, 0, none⟩) (by first | (rw [add_block]; exact hn376_0) | (show (Addr.add _ _).block ≠ _; rw [add_block]; exact hn376_0) | exact hn376_0) (.string t371)).trans hx376_1; replace hx376_0 := (cell_far (p := ⟨gb374, 1, none⟩) (by first | (rw [add_block]; exact hn376_1) | (show (Addr.add _ _).block ≠ _; rw [add_block]; exact hn376_1) | exact hn376_1) (.string t372)).trans hx376_0; replace hx376_1 := (cell_far (p := ⟨gb374, 1, none⟩) (by first | (rw [add_block]; exact hn376_1) | (show (Addr.add _ _).block ≠ _; rw [add_block]; exact hn376_1) | exact hn376_1) (.string t372)).trans hx376_1; (try have hy376_0 := fun (n_ : Nat) => (show ((((w36.drewN n_).setCell ⟨gb374, 0, none⟩ (.string t371)).setCell ⟨gb374, 1, none⟩ (.string t372))).cell? _ = some _ from hx376_0)); (try have hy376_1 := fun (n_ : Nat) => (show ((((w36.drewN n_).setCell ⟨gb374, 0, none⟩ (.string t371)).setCell ⟨gb374, 1, none⟩ (.string t372))).cell? _ = some _ from hx376_1)); clear hn376_0; clear hn376_1; replace p376 := eq_true p376; replace q376 := eq_true q376)); try go_wp2_with (first | (go_at_call 19; (with_reducible refine (spec_l6Term.calls k3 (((rd_T38 (rd_L4 l0 x4_1) x5_3).f0) ++ ((rd_T38 (rd_L4 l0 x4_1) x5_3).f1)) t371 t372 true _ A32.out).mono ?_); rintro e w35 ⟨rfl, hb⟩; have n0_ := Aside0.mk (below_step (by repeat (first | (with_reducible first | exact HB.out | apply below_alloc | apply pw_below_drewN | apply below_drew1) | exact HB.out)) hb); clear HB; have HB := n0_; clear n0_; (try clear hb); (try clear hb2); (try clear hk); (try clear hi); (try clear A32)) | ((with_reducible refine gate_dst (N := 7) rfl ?_); (try (refine gate_guard (by rfl) ?_; dsimp only)); refine box_event ?hg (N := 7) ?hd (cs := #[.string (⟨#[]⟩ : ByteArray), .string (⟨#[]⟩ : ByteArray)]) (t := 38) ?hr ?_; (case hd => rfl); (case hg => rfl); (case hr => first | (go_simp; done) | (go_simp; rfl)); intro gb374 hg w36 hbox hb; have n0_ := Aside0.mk (below_step (by repeat (first | (with_reducible first | exact HB.out | apply below_alloc | apply pw_below_drewN | apply below_drew1) | exact HB.out)) hb); have n1_ := Aside0.mk (hbox); have n2_ := Aside0.mk ((by rw [hg]; exact (below_size (by repeat (first | (with_reducible first | exact HB.out | apply below_alloc | apply pw_below_drewN | apply below_drew1) | exact HB.out))) : w.heap.size ≤ gb374)); have n3_ := Aside0.mk ((by rw [hg]; exact (below_size (by repeat (first | (with_reducible first | exact HB.out | apply below_alloc | apply pw_below_drewN | apply below_drew1) | exact HB.out))) : w.heap.size ≤ gb374)); clear HB; have HB := n0_; have BK374 := n1_; have GW374 := n2_; have GE374 := n3_; clear n0_ n1_ n2_ n3_; clear hb hbox hg; have hcz37_0 : w36.cell? ⟨gb374, 0, none⟩ = some (.string (⟨#[]⟩ : ByteArray)) := (blk_cell BK374.out 0).trans rfl; have hcz37_1 : w36.cell? ⟨gb374, 1, none⟩ = some (.string (⟨#[]⟩ : ByteArray)) := (blk_cell BK374.out 1).trans rfl; have hfz37_0 := blk_frozen BK374.out 0; have hfz37_1 := blk_frozen BK374.out 1; have p375 : 0 ≤ (x4_1 : Int) := of_decide_eq_true (by first | (with_reducible assumption) | assumption); have q375 : x4_1 < (l0.length : Int) := of_decide_eq_true (by first | (with_reducible assumption) | assumption); obtain ⟨ad375, A375_0, c375_0, e375, hx375_0, hl375_0, hi375_0⟩ := at_L4 HR0.out x4_1 p375 q375; obtain rfl : ad356 = ad375 := (by injection e375); have hn375_0 : ad356.block ≠ gb374 := Nat.ne_of_lt (Nat.lt_of_lt_of_le (by have := World.block_lt_of_cell? _ _ hx375_0; first | rwa [add_block] at this | exact this) GW374.out); have hn375_1 : ad356.block ≠ gb374 := Nat.ne_of_lt (Nat.lt_of_lt_of_le (by have := World.block_lt_of_cell? _ _ hx375_0; first | rwa [add_block] at this | exact this) GW374.out); replace hx375_0 := (HB.out.cell (World.block_lt_of_cell? w _ hx375_0)).trans hx375_0; have HR375_0 := Aside0.mk hi375_0; have HC375_0 := Aside0.mk hl375_0; clear hi375_0 hl375_0; replace hx375_0 := (cell_far (p := ⟨gb374, 0, none⟩) (by first | (rw [add_block]; exact hn375_0) | (show (Addr.add _ _).block ≠ _; rw [add_block]; exact hn375_0) | exact hn375_0) (.string t371)).trans hx375_0; replace hx375_0 := (cell_far (p := ⟨gb374, 1, none⟩) (by first | (rw [add_block]; exact hn375_1) | (show (Addr.add _ _).block ≠ _; rw [add_block]; exact hn375_1) | exact hn375_1) (.string t372)).trans hx375_0; (try have hy375_0 := fun (n_ : Nat) => (show ((((w36.drewN n_).setCell ⟨gb374, 0, none⟩ (.string t371)).setCell ⟨gb374, 1, none⟩ (.string t372))).cell? _ = some _ from hx375_0)); clear hn375_0; clear hn375_1; replace p375 := eq_true p375; replace q375 := eq_true q375; have p376 : 0 ≤ (x5_3 : Int) := of_decide_eq_true (by first | (with_reducible assumption) | assumption); have q376 : x5_3 < ((rd_L4 l0 x4_1).length : Int) := of_decide_eq_true (by first | (with_reducible assumption) | assumption); obtain ⟨ad376, e376, hx376_0, hx376_1⟩ := at_T38 HR375_0.out x5_3 p376 q376; cases e376; have hn376_0 : ad376.block ≠ gb374 := Nat.ne_of_lt (Nat.lt_of_lt_of_le (by have := World.block_lt_of_cell? _ _ hx376_0; first | rwa [add_block] at this | exact this) GW374.out); have hn376_1 : ad376.block ≠ gb374 := Nat.ne_of_lt (Nat.lt_of_lt_of_le (by have := World.block_lt_of_cell? _ _ hx376_0; first | rwa [add_block] at this | exact this) GW374.out); replace hx376_0 := (HB.out.cell (World.block_lt_of_cell? w _ hx376_0)).trans hx376_0; replace hx376_1 := (HB.out.cell (World.block_lt_of_cell? w _ hx376_1)).trans hx376_1; replace hx376_0 := (cell_far (p := ⟨gb374, 0, none⟩) (by first | (rw [add_block]; exact hn376_0) | (show (Addr.add _ _).block ≠ _; rw [add_block]; exact hn376_0) | exact hn376_0) (.string t371)).trans hx376_0; replace hx376_1 := (cell_far (p := ⟨gb374, 0, none⟩) (by first | (rw [add_block]; exact hn376_0) | (show (Addr.add _ _).block ≠ _; rw [add_block]; exact hn376_0) | exact hn376_0) (.string t371)).trans hx376_1; replace hx376_0 := (cell_far (p := ⟨gb374, 1, none⟩) (by first | (rw [add_block]; exact hn376_1) | (show (Addr.add _ _).block ≠ _; rw [add_block]; exact hn376_1) | exact hn376_1) (.string t372)).trans hx376_0; replace hx376_1 := (cell_far (p := ⟨gb374, 1, none⟩) (by first | (rw [add_block]; exact hn376_1) | (show (Addr.add _ _).block ≠ _; rw [add_block]; exact hn376_1) | exact hn376_1) (.string t372)).trans hx376_1; (try have hy376_0 := fun (n_ : Nat) => (show ((((w36.drewN n_).setCell ⟨gb374, 0, none⟩ (.string t371)).setCell ⟨gb374, 1, none⟩ (.string t372))).cell? _ = some _ from hx376_0)); (try have hy376_1 := fun (n_ : Nat) => (show ((((w36.drewN n_).setCell ⟨gb374, 0, none⟩ (.string t371)).setCell ⟨gb374, 1, none⟩ (.string t372))).cell? _ = some _ from hx376_1)); clear hn376_0; clear hn376_1; replace p376 := eq_true p376; replace q376 := eq_true q376)))
                                go_ret
                                exact ⟨by first | rfl | (simp [errW_none, errW_some] <;> rfl) | (simp [*, errW_none, errW_some] <;> rfl), by repeat (first | (with_reducible first | exact HB.out | apply below_alloc | apply pw_below_drewN | apply below_drew1 | refine below_set ?_ GE374.out) | exact HB.out)⟩
                              · rw [if_neg c34] at H
                                have c34b0 : (!(t371.toList == (((rd_T38 (rd_L4 l0 x4_1) x5_3).f0).toList)) || (!(t372.toList == (((rd_T38 (rd_L4 l0 x4_1) x5_3).f1).toList)))) = false := by simpa using c34
                                clear c34
                                by_cases c38 : (wrap64 ((x3_3.size : Int) + ((((rd_T38 (rd_L4 l0 x4_1) x5_3).f0) ++ ((rd_T38 (rd_L4 l0 x4_1) x5_3).f1)).size : Int))) > 200
                                · rw [if_pos c38] at H
                                  have c38b0 : decide (200 < (wrap64 ((x3_3.size : Int) + ((((rd_T38 (rd_L4 l0 x4_1) x5_3).f0) ++ ((rd_T38 (rd_L4 l0 x4_1) x5_3).f1)).size : Int)))) = true := decide_eq_true c38
                                  (try (have c38b0s := c38b0; simp only [ByteArray.size_append] at c38b0s; have c38b0q := eq_true (of_decide_eq_true c38b0s)))
                                  (try (have c38b0t := c38b0; simp only [ByteArray.size_append, Int.natCast_add] at c38b0t; have c38b0u := eq_true (of_decide_eq_true c38b0t)))
                                  clear c38
                                  obtain rfl := Option.some.inj H
                                  have p356 : 0 ≤ (x4_1 : Int) := of_decide_eq_true (by first | (with_reducible assumption) | assumption)
                                  have q356 : x4_1 < (l0.length : Int) := of_decide_eq_true (by first | (with_reducible assumption) | assumption)
                                  obtain ⟨ad356, A356_0, c356_0, e356, hx356_0, hl356_0, hi356_0⟩ := at_L4 HR0.out x4_1 p356 q356
                                  cases e356
                                  replace hx356_0 := (HB.out.cell (World.block_lt_of_cell? w _ hx356_0)).trans hx356_0
                                  have HR356_0 := Aside0.mk hi356_0
                                  have HC356_0 := Aside0.mk hl356_0
                                  clear hi356_0 hl356_0
                                  replace p356 := eq_true p356
                                  replace q356 := eq_true q356
                                  have p367 : 0 ≤ (x4_1 : Int) := of_decide_eq_true (by first | (with_reducible assumption) | assumption)
                                  have q367 : x4_1 < (l0.length : Int) := of_decide_eq_true (by first | (with_reducible assumption) | assumption)
                                  obtain ⟨ad367, A367_0, c367_0, e367, hx367_0, hl367_0, hi367_0⟩ := at_L4 HR0.out x4_1 p367 q367
                                  obtain rfl : ad356 = ad367 := (by injection e367)
                                  replace hx367_0 := (HB.out.cell (World.block_lt_of_cell? w _ hx367_0)).trans hx367_0
                                  have HR367_0 := Aside0.mk hi367_0
                                  have HC367_0 := Aside0.mk hl367_0
                                  clear hi367_0 hl367_0
                                  replace p367 := eq_true p367
                                  replace q367 := eq_true q367
                                  have ea_ := Option.some.inj (hx356_0.symm.trans hx367_0)
                                  injection ea_ with ea_ en_ ec_
                                  subst ea_
                                  subst ec_
                                  clear en_
                                  have p368 : 0 ≤ (x5_3 : Int) := of_decide_eq_true (by first | (with_reducible assumption) | assumption)
                                  have q368 : x5_3 < ((rd_L4 l0 x4_1).length : Int) := of_decide_eq_true (by first | (with_reducible assumption) | assumption)
                                  obtain ⟨ad368, e368, hx368_0, hx368_1⟩ := at_T38 HR367_0.out x5_3 p368 q368
                                  cases e368
                                  replace hx368_0 := (HB.out.cell (World.block_lt_of_cell? w _ hx368_0)).trans hx368_0
                                  replace hx368_1 := (HB.out.cell (World.block_lt_of_cell? w _ hx368_1)).trans hx368_1
                                  replace p368 := eq_true p368
                                  replace q368 := eq_true q368
                                  have p369 : 0 ≤ (x4_1 : Int) := of_decide_eq_true (by first | (with_reducible assumption) | assumption)
                                  have q369 : x4_1 < (l0.length : Int) := of_decide_eq_true (by first | (with_reducible assumption) | assumption)
                                  obtain ⟨ad369, A369_0, c369_0, e369, hx369_0, hl369_0, hi369_0⟩ := at_L4 HR0.out x4_1 p369 q369
                                  obtain rfl : ad356 = ad369 := (by injection e369)
                                  replace hx369_0 := (HB.out.cell (World.block_lt_of_cell? w _ hx369_0)).trans hx369_0
                                  have HR369_0 := Aside0.mk hi369_0
                                  have HC369_0 := Aside0.mk hl369_0
                                  clear hi369_0 hl369_0
                                  replace p369 := eq_true p369
                                  replace q369 := eq_true q369
                                  have ea_ := Option.some.inj (hx356_0.symm.trans hx369_0)
                                  injection ea_ with ea_ en_ ec_
                                  subst ea_
                                  subst ec_
                                  clear en_
                                  have p370 : 0 ≤ (x5_3 : Int) := of_decide_eq_true (by first | (with_reducible assumption) | assumption)
                                  have q370 : x5_3 < ((rd_L4 l0 x4_1).length : Int) := of_decide_eq_true (by first | (with_reducible assumption) | assumption)
                                  obtain ⟨ad370, e370, hx370_0, hx370_1⟩ := at_T38 HR369_0.out x5_3 p370 q370
                                  cases e370
                                  replace hx370_0 := (HB.out.cell (World.block_lt_of_cell? w _ hx370_0)).trans hx370_0
                                  replace hx370_1 := (HB.out.cell (World.block_lt_of_cell? w _ hx370_1)).trans hx370_1
                                  replace p370 := eq_true p370
                                  replace q370 := eq_true q370
                                  go_wp2_with (first | (go_at_call 19; (with_reducible refine (spec_l6Term.calls k3 (((rd_T38 (rd_L4 l0 x4_1) x5_3).f0) ++ ((rd_T38 (rd_L4 l0 x4_1) x5_3).f1)) t371 t372 true _ A32.out).mono ?_); rintro e w39 ⟨rfl, hb⟩; have n0_ := Aside0.mk (below_step (by repeat (first | (with_reducible first | exact HB.out | apply below_alloc | apply pw_below_drewN | apply below_drew1) | exact HB.out)) hb); clear HB; have HB := n0_; clear n0_; (try clear hb); (try clear hb2); (try clear hk); (try clear hi)) | ((with_reducible refine gate_dst (N := 7) rfl ?_); (try (refine gate_guard (by rfl) ?_; dsimp only)); refine box_event ?hg (N := 7) ?hd (cs := #[.string (⟨#[]⟩ : ByteArray), .string (⟨#[]⟩ : ByteArray)]) (t := 38) ?hr ?_; (case hd => rfl); (case hg => rfl); (case hr => first | (go_simp; done) | (go_simp; rfl)); intro gb374 hg w40 hbox hb; have n0_ := Aside0.mk (below_step (by repeat (first | (with_reducible first | exact HB.out | apply below_alloc | apply pw_below_drewN | apply below_drew1) | exact HB.out)) hb); have n1_ := Aside0.mk (hbox); have n2_ := Aside0.mk ((by rw [hg]; exact (below_size (by repeat (first | (with_reducible first | exact HB.out | apply below_alloc | apply pw_below_drewN | apply below_drew1) | exact HB.out))) : w.heap.size ≤ gb374)); have n3_ := Aside0.mk ((by rw [hg]; exact (below_size (by repeat (first | (with_reducible first | exact HB.out | apply below_alloc | apply pw_below_drewN | apply below_drew1) | exact HB.out))) : w.heap.size ≤ gb374)); clear HB; have HB := n0_; have BK374 := n1_; have GW374 := n2_; have GE374 := n3_; clear n0_ n1_ n2_ n3_; clear hb hbox hg; have hcz41_0 : w40.cell? ⟨gb374, 0, none⟩ = some (.string (⟨#[]⟩ : ByteArray)) := (blk_cell BK374.out 0).trans rfl; have hcz41_1 : w40.cell? ⟨gb374, 1, none⟩ = some (.string (⟨#[]⟩ : ByteArray)) := (blk_cell BK374.out 1).trans rfl; have hfz41_0 := blk_frozen BK374.out 0; have hfz41_1 := blk_frozen BK374.out 1; have p375 : 0 ≤ (x4_1 : Int) := of_decide_eq_true (by first | (with_reducible assumption) | assumption); have q375 : x4_1 < (l0.length : Int) := of_decide_eq_true (by first | (with_reducible assumption) | assumption); obtain ⟨ad375, A375_0, c375_0, e375, hx375_0, hl375_0, hi375_0⟩ := at_L4 HR0.out x4_1 p375 q375; obtain rfl : ad356 = ad375 := (by injection e375); have hn375_0 : ad356.block ≠ gb374 := Nat.ne_of_lt (Nat.lt_of_lt_of_le (by have := World.block_lt_of_cell? _ _ hx375_0; first | rwa [add_block] at this | exact this) GW374.out); have hn375_1 : ad356.block ≠ gb374 := Nat.ne_of_lt (Nat.lt_of_lt_of_le (by have := World.block_lt_of_cell? _ _ hx375_0; first | rwa [add_block] at this | exact this) GW374.out); replace hx375_0 := (HB.out.cell (World.block_lt_of_cell? w _ hx375_0)).trans hx375_0; have HR375_0 := Aside0.mk hi375_0; have HC375_0 := Aside0.mk hl375_0; clear hi375_0 hl375_0; replace hx375_0 := (cell_far (p := ⟨gb374, 0, none⟩) (by first | (rw [add_block]; exact hn375_0) | (show (Addr.add _ _).block ≠ _; rw [add_block]; exact hn375_0) | exact hn375_0) (.string t371)).trans hx375_0; replace hx375_0 := (cell_far (p := ⟨gb374, 1, none⟩) (by first | (rw [add_block]; exact hn375_1) | (show (Addr.add _ _).block ≠ _; rw [add_block]; exact hn375_1) | exact hn375_1) (.string t372)).trans hx375_0; (try have hy375_0 := fun (n_ : Nat) => (show ((((w40.drewN n_).setCell ⟨gb374, 0, none⟩ (.string t371)).setCell ⟨gb374, 1, none⟩ (.string t372))).cell? _ = some _ from hx375_0)); clear hn375_0; clear hn375_1; replace p375 := eq_true p375; replace q375 := eq_true q375; have p376 : 0 ≤ (x5_3 : Int) := of_decide_eq_true (by first | (with_reducible assumption) | assumption); have q376 : x5_3 < ((rd_L4 l0 x4_1).length : Int) := of_decide_eq_true (by first | (with_reducible assumption) | assumption); obtain ⟨ad376, e376, hx376_0, hx376_1⟩ := at_T38 HR375_0.out x5_3 p376 q376; cases e376; have hn376_0 : ad376.block ≠ gb374 := Nat.ne_of_lt (Nat.lt_of_lt_of_le (by have := World.block_lt_of_cell? _ _ hx376_0; first | rwa [add_block] at this | exact this) GW374.out); have hn376_1 : ad376.block ≠ gb374 := Nat.ne_of_lt (Nat.lt_of_lt_of_le (by have := World.block_lt_of_cell? _ _ hx376_0; first | rwa [add_block] at this | exact this) GW374.out); replace hx376_0 := (HB.out.cell (World.block_lt_of_cell? w _ hx376_0)).trans hx376_0; replace hx376_1 := (HB.out.cell (World.block_lt_of_cell? w _ hx376_1)).trans hx376_1; replace hx376_0 := (cell_far (p := ⟨gb374, 0, none⟩) (by first | (rw [add_block]; exact hn376_0) | (show (Addr.add _ _).block ≠ _; rw [add_block]; exact hn376_0) | exact hn376_0) (.string t371)).trans hx376_0; replace hx376_1 := (cell_far (p := ⟨gb374, 0, none⟩) (by first | (rw [add_block]; exact hn376_0) | (show (Addr.add _ _).block ≠ _; rw [add_block]; exact hn376_0) | exact hn376_0) (.string t371)).trans hx376_1; replace hx376_0 := (cell_far (p := ⟨gb374, 1, none⟩) (by first | (rw [add_block]; exact hn376_1) | (show (Addr.add _ _).block ≠ _; rw [add_block]; exact hn376_1) | exact hn376_1) (.string t372)).trans hx376_0; replace hx376_1 := (cell_far (p := ⟨gb374, 1, none⟩) (by first | (rw [add_block]; exact hn376_1) | (show (Addr.add _ _).block ≠ _; rw [add_block]; exact hn376_1) | exact hn376_1) (.string t372)).trans hx376_1; (try have hy376_0 := fun (n_ : Nat) => (show ((((w40.drewN n_).setCell ⟨gb374, 0, none⟩ (.string t371)).setCell ⟨gb374, 1, none⟩ (.string t372))).cell? _ = some _ from hx376_0)); (try have hy376_1 := fun (n_ : Nat) => (show ((((w40.drewN n_).setCell ⟨gb374, 0, none⟩ (.string t371)).setCell ⟨gb374, 1, none⟩ (.string t372))).cell? _ = some _ from hx376_1)); clear hn376_0; clear hn376_1; replace p376 := eq_true p376; replace q376 := eq_true q376))
                                  repeat (go_quiet (first | (go_at_call 19; (with_reducible refine (spec_l6Term.calls k3 (((rd_T38 (rd_L4 l0 x4_1) x5_3).f0) ++ ((rd_T38 (rd_L4 l0 x4_1) x5_3).f1)) t371 t372 true _ A32.out).mono ?_); rintro e w39 ⟨rfl, hb⟩; have n0_ := Aside0.mk (below_step (by repeat (first | (with_reducible first | exact HB.out | apply below_alloc | apply pw_below_drewN | apply below_drew1) | exact HB.out)) hb); clear HB; have HB := n0_; clear n0_; (try clear hb); (try clear hb2); (try clear hk); (try clear hi); (try clear A32)) | ((with_reducible refine gate_dst (N := 7) rfl ?_); (try (refine gate_guard (by rfl) ?_; dsimp only)); refine box_event ?hg (N := 7) ?hd (cs := #[.string (⟨#[]⟩ : ByteArray), .string (⟨#[]⟩ : ByteArray)]) (t := 38) ?hr ?_; (case hd => rfl); (case hg => rfl); (case hr => first | (go_simp; done) | (go_simp; rfl)); intro gb374 hg w40 hbox hb; have n0_ := Aside0.mk (below_step (by repeat (first | (with_reducible first | exact HB.out | apply below_alloc | apply pw_below_drewN | apply below_drew1) | exact HB.out)) hb); have n1_ := Aside0.mk (hbox); have n2_ := Aside0.mk ((by rw [hg]; exact (below_size (by repeat (first | (with_reducible first | exact HB.out | apply below_alloc | apply pw_below_drewN | apply below_drew1) | exact HB.out))) : w.heap.size ≤ gb374)); have n3_ := Aside0.mk ((by rw [hg]; exact (below_size (by repeat (first | (with_reducible first | exact HB.out | apply below_alloc | apply pw_below_drewN | apply below_drew1) | exact HB.out))) : w.heap.size ≤ gb374)); clear HB; have HB := n0_; have BK374 := n1_; have GW374 := n2_; have GE374 := n3_; clear n0_ n1_ n2_ n3_; clear hb hbox hg; have hcz41_0 : w40.cell? ⟨gb374, 0, none⟩ = some (.string (⟨#[]⟩ : ByteArray)) := (blk_cell BK374.out 0).trans rfl; have hcz41_1 : w40.cell? ⟨gb374, 1, none⟩ = some (.string (⟨#[]⟩ : ByteArray)) := (blk_cell BK374.out 1).trans rfl; have hfz41_0 := blk_frozen BK374.out 0; have hfz41_1 := blk_frozen BK374.out 1; have p375 : 0 ≤ (x4_1 : Int) := of_decide_eq_true (by first | (with_reducible assumption) | assumption); have q375 : x4_1 < (l0.length : Int) := of_decide_eq_true (by first | (with_reducible assumption) | assumption); obtain ⟨ad375, A375_0, c375_0, e375, hx375_0, hl375_0, hi375_0⟩ := at_L4 HR0.out x4_1 p375 q375; obtain rfl : ad356 = ad375 := (by injection e375); have hn375_0 : ad356.block ≠ gb374 := Nat.ne_of_lt (Nat.lt_of_lt_of_le (by have := World.block_lt_of_cell? _ _ hx375_0; first | rwa [add_block] at this | exact this) GW374.out); have hn375_1 : ad356.block ≠ gb374 := Nat.ne_of_lt (Nat.lt_of_lt_of_le (by have := World.block_lt_of_cell? _ _ hx375_0; first | rwa [add_block] at this | exact this) GW374.out); replace hx375_0 := (HB.out.cell (World.block_lt_of_cell? w _ hx375_0)).trans hx375_0; have HR375_0 := Aside0.mk hi375_0; have HC375_0 := Aside0.mk hl375_0; clear hi375_0 hl375_0; replace hx375_0 := (cell_far (p := ⟨gb374, 0, none⟩) (by first | (rw [add_block]; exact hn375_0) | (show (Addr.add _ _).block ≠ _; rw [add_block]; exact hn375_0) | exact hn375_0) (.string t371)).trans hx375_0; replace hx375_0 := (cell_far (p := ⟨gb374, 1, none⟩) (by first | (rw [add_block]; exact hn375_1) | (show (Addr.add _ _).block ≠ _; rw [add_block]; exact hn375_1) | exact hn375_1) (.string t372)).trans hx375_0; (try have hy375_0 := fun (n_ : Nat) => (show ((((w40.drewN n_).setCell ⟨gb374, 0, none⟩ (.string t371)).setCell ⟨gb374, 1, none⟩ (.string t372))).cell? _ = some _ from hx375_0)); clear hn375_0; clear hn375_1; replace p375 := eq_true p375; replace q375 := eq_true q375; have p376 : 0 ≤ (x5_3 : Int) := of_decide_eq_true (by first | (with_reducible assumption) | assumption); have q376 : x5_3 < ((rd_L4 l0 x4_1).length : Int) := of_decide_eq_true (by first | (with_reducible assumption) | assumption); obtain ⟨ad376, e376, hx376_0, hx376_1⟩ := at_T38 HR375_0.out x5_3 p376 q376; cases e376; have hn376_0 : ad376.block ≠ gb374 := Nat.ne_of_lt (Nat.lt_of_lt_of_le (by have := World.block_lt_of_cell? _ _ hx376_0; first | rwa [add_block] at this | exact this) GW374.out); have hn376_1 : ad376.block ≠ gb374 := Nat.ne_of_lt (Nat.lt_of_lt_of_le (by have := World.block_lt_of_cell? _ _ hx376_0; first | rwa [add_block] at this | exact this) GW374.out); replace hx376_0 := (HB.out.cell (World.block_lt_of_cell? w _ hx376_0)).trans hx376_0; replace hx376_1 := (HB.out.cell (World.block_lt_of_cell? w _ hx376_1)).trans hx376_1; replace hx376_0 := (cell_far (p := ⟨gb374, 0, none⟩) (by first | (rw [add_block]; exact hn376_0) | (show (Addr.add _ _).block ≠ _; rw [add_block]; exact hn376_0) | exact hn376_0) (.string t371)).trans hx376_0; replace hx376_1 := (cell_far (p := ⟨gb374, 0, none⟩) (by first | (rw [add_block]; exact hn376_0) | (show (Addr.add _ _).block ≠ _; rw [add_block]; exact hn376_0) | exact hn376_0) (.string t371)).trans hx376_1; replace hx376_0 := (cell_far (p := ⟨gb374, 1, none⟩) (by first | (rw [add_block]; exact hn376_1) | (show (Addr.add _ _).block ≠ _; rw [add_block]; exact hn376_1) | exact hn376_1) (.string t372)).trans hx376_0; replace hx376_1 := (cell_far (p := ⟨gb374, 1, none⟩) (by first | (rw [add_block]; exact hn376_1) | (show (Addr.add _ _).block ≠ _; rw [add_block]; exact hn376_1) | exact hn376_1) (.string t372)).trans hx376_1; (try have hy376_0 := fun (n_ : Nat) => (show ((((w40.drewN n_).setCell ⟨gb374, 0, none⟩ (.string t371)).setCell ⟨gb374, 1, none⟩ (.string t372))).cell? _ = some _ from hx376_0)); (try have hy376_1 := fun (n_ : Nat) => (show ((((w40.drewN n_).setCell ⟨gb374, 0, none⟩ (.string t371)).setCell ⟨gb374, 1, none⟩ (.string t372))).cell? _ = some _ from hx376_1)); clear hn376_0; clear hn376_1; replace p376 := eq_true p376; replace q376 := eq_true q376)); try go_wp2_with (first | (go_at_call 19; (with_reducible refine (spec_l6Term.calls k3 (((rd_T38 (rd_L4 l0 x4_1) x5_3).f0) ++ ((rd_T38 (rd_L4 l0 x4_1) x5_3).f1)) t371 t372 true _ A32.out).mono ?_); rintro e w39 ⟨rfl, hb⟩; have n0_ := Aside0.mk (below_step (by repeat (first | (with_reducible first | exact HB.out | apply below_alloc | apply pw_below_drewN | apply below_drew1) | exact HB.out)) hb); clear HB; have HB := n0_; clear n0_; (try clear hb); (try clear hb2); (try clear hk); (try clear hi); (try clear A32)) | ((with_reducible refine gate_dst (N := 7) rfl ?_); (try (refine gate_guard (by rfl) ?_; dsimp only)); refine box_event ?hg (N := 7) ?hd (cs := #[.string (⟨#[]⟩ : ByteArray), .string (⟨#[]⟩ : ByteArray)]) (t := 38) ?hr ?_; (case hd => rfl); (case hg => rfl); (case hr => first | (go_simp; done) | (go_simp; rfl)); intro gb374 hg w40 hbox hb; have n0_ := Aside0.mk (below_step (by repeat (first | (with_reducible first | exact HB.out | apply below_alloc | apply pw_below_drewN | apply below_drew1) | exact HB.out)) hb); have n1_ := Aside0.mk (hbox); have n2_ := Aside0.mk ((by rw [hg]; exact (below_size (by repeat (first | (with_reducible first | exact HB.out | apply below_alloc | apply pw_below_drewN | apply below_drew1) | exact HB.out))) : w.heap.size ≤ gb374)); have n3_ := Aside0.mk ((by rw [hg]; exact (below_size (by repeat (first | (with_reducible first | exact HB.out | apply below_alloc | apply pw_below_drewN | apply below_drew1) | exact HB.out))) : w.heap.size ≤ gb374)); clear HB; have HB := n0_; have BK374 := n1_; have GW374 := n2_; have GE374 := n3_; clear n0_ n1_ n2_ n3_; clear hb hbox hg; have hcz41_0 : w40.cell? ⟨gb374, 0, none⟩ = some (.string (⟨#[]⟩ : ByteArray)) := (blk_cell BK374.out 0).trans rfl; have hcz41_1 : w40.cell? ⟨gb374, 1, none⟩ = some (.string (⟨#[]⟩ : ByteArray)) := (blk_cell BK374.out 1).trans rfl; have hfz41_0 := blk_frozen BK374.out 0; have hfz41_1 := blk_frozen BK374.out 1; have p375 : 0 ≤ (x4_1 : Int) := of_decide_eq_true (by first | (with_reducible assumption) | assumption); have q375 : x4_1 < (l0.length : Int) := of_decide_eq_true (by first | (with_reducible assumption) | assumption); obtain ⟨ad375, A375_0, c375_0, e375, hx375_0, hl375_0, hi375_0⟩ := at_L4 HR0.out x4_1 p375 q375; obtain rfl : ad356 = ad375 := (by injection e375); have hn375_0 : ad356.block ≠ gb374 := Nat.ne_of_lt (Nat.lt_of_lt_of_le (by have := World.block_lt_of_cell? _ _ hx375_0; first | rwa [add_block] at this | exact this) GW374.out); have hn375_1 : ad356.block ≠ gb374 := Nat.ne_of_lt (Nat.lt_of_lt_of_le (by have := World.block_lt_of_cell? _ _ hx375_0; first | rwa [add_block] at this | exact this) GW374.out); replace hx375_0 := (HB.out.cell (World.block_lt_of_cell? w _ hx375_0)).trans hx375_0; have HR375_0 := Aside0.mk hi375_0; have HC375_0 := Aside0.mk hl375_0; clear hi375_0 hl375_0; replace hx375_0 := (cell_far (p := ⟨gb374, 0, none⟩) (by first | (rw [add_block]; exact hn375_0) | (show (Addr.add _ _).block ≠ _; rw [add_block]; exact hn375_0) | exact hn375_0) (.string t371)).trans hx375_0; replace hx375_0 := (cell_far (p := ⟨gb374, 1, none⟩) (by first | (rw [add_block]; exact hn375_1) | (show (Addr.add _ _).block ≠ _; rw [add_block]; exact hn375_1) | exact hn375_1) (.string t372)).trans hx375_0; (try have hy375_0 := fun (n_ : Nat) => (show ((((w40.drewN n_).setCell ⟨gb374, 0, none⟩ (.string t371)).setCell ⟨gb374, 1, none⟩ (.string t372))).cell? _ = some _ from hx375_0)); clear hn375_0; clear hn375_1; replace p375 := eq_true p375; replace q375 := eq_true q375; have p376 : 0 ≤ (x5_3 : Int) := of_decide_eq_true (by first | (with_reducible assumption) | assumption); have q376 : x5_3 < ((rd_L4 l0 x4_1).length : Int) := of_decide_eq_true (by first | (with_reducible assumption) | assumption); obtain ⟨ad376, e376, hx376_0, hx376_1⟩ := at_T38 HR375_0.out x5_3 p376 q376; cases e376; have hn376_0 : ad376.block ≠ gb374 := Nat.ne_of_lt (Nat.lt_of_lt_of_le (by have := World.block_lt_of_cell? _ _ hx376_0; first | rwa [add_block] at this | exact this) GW374.out); have hn376_1 : ad376.block ≠ gb374 := Nat.ne_of_lt (Nat.lt_of_lt_of_le (by have := World.block_lt_of_cell? _ _ hx376_0; first | rwa [add_block] at this | exact this) GW374.out); replace hx376_0 := (HB.out.cell (World.block_lt_of_cell? w _ hx376_0)).trans hx376_0; replace hx376_1 := (HB.out.cell (World.block_lt_of_cell? w _ hx376_1)).trans hx376_1; replace hx376_0 := (cell_far (p := ⟨gb374, 0, none⟩) (by first | (rw [add_block]; exact hn376_0) | (show (Addr.add _ _).block ≠ _; rw [add_block]; exact hn376_0) | exact hn376_0) (.string t371)).trans hx376_0; replace hx376_1 := (cell_far (p := ⟨gb374, 0, none⟩) (by first | (rw [add_block]; exact hn376_0) | (show (Addr.add _ _).block ≠ _; rw [add_block]; exact hn376_0) | exact hn376_0) (.string t371)).trans hx376_1; replace hx376_0 := (cell_far (p := ⟨gb374, 1, none⟩) (by first | (rw [add_block]; exact hn376_1) | (show (Addr.add _ _).block ≠ _; rw [add_block]; exact hn376_1) | exact hn376_1) (.string t372)).trans hx376_0; replace hx376_1 := (cell_far (p := ⟨gb374, 1, none⟩) (by first | (rw [add_block]; exact hn376_1) | (show (Addr.add _ _).block ≠ _; rw [add_block]; exact hn376_1) | exact hn376_1) (.string t372)).trans hx376_1; (try have hy376_0 := fun (n_ : Nat) => (show ((((w40.drewN n_).setCell ⟨gb374, 0, none⟩ (.string t371)).setCell ⟨gb374, 1, none⟩ (.string t372))).cell? _ = some _ from hx376_0)); (try have hy376_1 := fun (n_ : Nat) => (show ((((w40.drewN n_).setCell ⟨gb374, 0, none⟩ (.string t371)).setCell ⟨gb374, 1, none⟩ (.string t372))).cell? _ = some _ from hx376_1)); clear hn376_0; clear hn376_1; replace p376 := eq_true p376; replace q376 := eq_true q376)))
                                  go_ret
                                  exact ⟨by first | rfl | (simp [errW_none, errW_some] <;> rfl) | (simp [*, errW_none, errW_some] <;> rfl), by repeat (first | (with_reducible first | exact HB.out | apply below_alloc | apply pw_below_drewN | apply below_drew1 | refine below_set ?_ GE374.out) | exact HB.out)⟩
                                · rw [if_neg c38] at H
                                  have c38b0 : decide (200 < (wrap64 ((x3_3.size : Int) + ((((rd_T38 (rd_L4 l0 x4_1) x5_3).f0) ++ ((rd_T38 (rd_L4 l0 x4_1) x5_3).f1)).size : Int)))) = false := decide_eq_false c38
                                  (try (have c38b0t := c38b0; simp only [ByteArray.size_append, Int.natCast_add] at c38b0t; have c38b0u := eq_false (of_decide_eq_false c38b0t)))
                                  clear c38
                                  by_cases c42 : x3_3.size + (((rd_T38 (rd_L4 l0 x4_1) x5_3).f0) ++ ((rd_T38 (rd_L4 l0 x4_1) x5_3).f1)).size ≤ 9223372036854775807
                                  · rw [if_pos c42] at H
                                    have c42b0 := eq_true c42
                                    have c42b1 : decide (x3_3.size + (((rd_T38 (rd_L4 l0 x4_1) x5_3).f0) ++ ((rd_T38 (rd_L4 l0 x4_1) x5_3).f1)).size ≤ 9223372036854775807) = true := decide_eq_true c42
                                    (try (have c42b1s := c42b1; simp only [ByteArray.size_append] at c42b1s; have c42b1q := eq_true (of_decide_eq_true c42b1s)))
                                    (try (have c42b1t := c42b1; simp only [ByteArray.size_append, Int.natCast_add] at c42b1t; have c42b1u := eq_true (of_decide_eq_true c42b1t)))
                                    try have c42b2 : (9223372036854775807 < x3_3.size + (((rd_T38 (rd_L4 l0 x4_1) x5_3).f0) ++ ((rd_T38 (rd_L4 l0 x4_1) x5_3).f1)).size) = False := eq_false (Nat.not_lt.2 c42)
                                    have H' := Aside0.mk H
                                    clear H
                                    have p356 : 0 ≤ (x4_1 : Int) := of_decide_eq_true (by first | (with_reducible assumption) | assumption)
                                    have q356 : x4_1 < (l0.length : Int) := of_decide_eq_true (by first | (with_reducible assumption) | assumption)
                                    obtain ⟨ad356, A356_0, c356_0, e356, hx356_0, hl356_0, hi356_0⟩ := at_L4 HR0.out x4_1 p356 q356
                                    cases e356
                                    replace hx356_0 := (HB.out.cell (World.block_lt_of_cell? w _ hx356_0)).trans hx356_0
                                    have HR356_0 := Aside0.mk hi356_0
                                    have HC356_0 := Aside0.mk hl356_0
                                    clear hi356_0 hl356_0
                                    replace p356 := eq_true p356
                                    replace q356 := eq_true q356
                                    have p367 : 0 ≤ (x4_1 : Int) := of_decide_eq_true (by first | (with_reducible assumption) | assumption)
                                    have q367 : x4_1 < (l0.length : Int) := of_decide_eq_true (by first | (with_reducible assumption) | assumption)
                                    obtain ⟨ad367, A367_0, c367_0, e367, hx367_0, hl367_0, hi367_0⟩ := at_L4 HR0.out x4_1 p367 q367
                                    obtain rfl : ad356 = ad367 := (by injection e367)
                                    replace hx367_0 := (HB.out.cell (World.block_lt_of_cell? w _ hx367_0)).trans hx367_0
                                    have HR367_0 := Aside0.mk hi367_0
                                    have HC367_0 := Aside0.mk hl367_0
                                    clear hi367_0 hl367_0
                                    replace p367 := eq_true p367
                                    replace q367 := eq_true q367
                                    have ea_ := Option.some.inj (hx356_0.symm.trans hx367_0)
                                    injection ea_ with ea_ en_ ec_
                                    subst ea_
                                    subst ec_
                                    clear en_
                                    have p368 : 0 ≤ (x5_3 : Int) := of_decide_eq_true (by first | (with_reducible assumption) | assumption)
                                    have q368 : x5_3 < ((rd_L4 l0 x4_1).length : Int) := of_decide_eq_true (by first | (with_reducible assumption) | assumption)
                                    obtain ⟨ad368, e368, hx368_0, hx368_1⟩ := at_T38 HR367_0.out x5_3 p368 q368
                                    cases e368
                                    replace hx368_0 := (HB.out.cell (World.block_lt_of_cell? w _ hx368_0)).trans hx368_0
                                    replace hx368_1 := (HB.out.cell (World.block_lt_of_cell? w _ hx368_1)).trans hx368_1
                                    replace p368 := eq_true p368
                                    replace q368 := eq_true q368
                                    have p369 : 0 ≤ (x4_1 : Int) := of_decide_eq_true (by first | (with_reducible assumption) | assumption)
                                    have q369 : x4_1 < (l0.length : Int) := of_decide_eq_true (by first | (with_reducible assumption) | assumption)
                                    obtain ⟨ad369, A369_0, c369_0, e369, hx369_0, hl369_0, hi369_0⟩ := at_L4 HR0.out x4_1 p369 q369
                                    obtain rfl : ad356 = ad369 := (by injection e369)
                                    replace hx369_0 := (HB.out.cell (World.block_lt_of_cell? w _ hx369_0)).trans hx369_0
                                    have HR369_0 := Aside0.mk hi369_0
                                    have HC369_0 := Aside0.mk hl369_0
                                    clear hi369_0 hl369_0
                                    replace p369 := eq_true p369
                                    replace q369 := eq_true q369
                                    have ea_ := Option.some.inj (hx356_0.symm.trans hx369_0)
                                    injection ea_ with ea_ en_ ec_
                                    subst ea_
                                    subst ec_
                                    clear en_
                                    have p370 : 0 ≤ (x5_3 : Int) := of_decide_eq_true (by first | (with_reducible assumption) | assumption)
                                    have q370 : x5_3 < ((rd_L4 l0 x4_1).length : Int) := of_decide_eq_true (by first | (with_reducible assumption) | assumption)
                                    obtain ⟨ad370, e370, hx370_0, hx370_1⟩ := at_T38 HR369_0.out x5_3 p370 q370
                                    cases e370
                                    replace hx370_0 := (HB.out.cell (World.block_lt_of_cell? w _ hx370_0)).trans hx370_0
                                    replace hx370_1 := (HB.out.cell (World.block_lt_of_cell? w _ hx370_1)).trans hx370_1
                                    replace p370 := eq_true p370
                                    replace q370 := eq_true q370
                                    go_wp2_with (first | (go_at_call 19; (with_reducible refine (spec_l6Term.calls k3 (((rd_T38 (rd_L4 l0 x4_1) x5_3).f0) ++ ((rd_T38 (rd_L4 l0 x4_1) x5_3).f1)) t371 t372 true _ A32.out).mono ?_); rintro e w43 ⟨rfl, hb⟩; have n0_ := Aside0.mk (below_step (by repeat (first | (with_reducible first | exact HB.out | apply below_alloc | apply pw_below_drewN | apply below_drew1) | exact HB.out)) hb); clear HB; have HB := n0_; clear n0_; (try clear hb); (try clear hb2); (try clear hk); (try clear hi)) | ((with_reducible refine gate_dst (N := 7) rfl ?_); (try (refine gate_guard (by rfl) ?_; dsimp only)); refine box_event ?hg (N := 7) ?hd (cs := #[.string (⟨#[]⟩ : ByteArray), .string (⟨#[]⟩ : ByteArray)]) (t := 38) ?hr ?_; (case hd => rfl); (case hg => rfl); (case hr => first | (go_simp; done) | (go_simp; rfl)); intro gb374 hg w44 hbox hb; have n0_ := Aside0.mk (below_step (by repeat (first | (with_reducible first | exact HB.out | apply below_alloc | apply pw_below_drewN | apply below_drew1) | exact HB.out)) hb); have n1_ := Aside0.mk (hbox); have n2_ := Aside0.mk ((by rw [hg]; exact (below_size (by repeat (first | (with_reducible first | exact HB.out | apply below_alloc | apply pw_below_drewN | apply below_drew1) | exact HB.out))) : w.heap.size ≤ gb374)); have n3_ := Aside0.mk ((by rw [hg]; exact (below_size (by repeat (first | (with_reducible first | exact HB.out | apply below_alloc | apply pw_below_drewN | apply below_drew1) | exact HB.out))) : w.heap.size ≤ gb374)); clear HB; have HB := n0_; have BK374 := n1_; have GW374 := n2_; have GE374 := n3_; clear n0_ n1_ n2_ n3_; clear hb hbox hg; have hcz45_0 : w44.cell? ⟨gb374, 0, none⟩ = some (.string (⟨#[]⟩ : ByteArray)) := (blk_cell BK374.out 0).trans rfl; have hcz45_1 : w44.cell? ⟨gb374, 1, none⟩ = some (.string (⟨#[]⟩ : ByteArray)) := (blk_cell BK374.out 1).trans rfl; have hfz45_0 := blk_frozen BK374.out 0; have hfz45_1 := blk_frozen BK374.out 1; have p375 : 0 ≤ (x4_1 : Int) := of_decide_eq_true (by first | (with_reducible assumption) | assumption); have q375 : x4_1 < (l0.length : Int) := of_decide_eq_true (by first | (with_reducible assumption) | assumption); obtain ⟨ad375, A375_0, c375_0, e375, hx375_0, hl375_0, hi375_0⟩ := at_L4 HR0.out x4_1 p375 q375; obtain rfl : ad356 = ad375 := (by injection e375); have hn375_0 : ad356.block ≠ gb374 := Nat.ne_of_lt (Nat.lt_of_lt_of_le (by have := World.block_lt_of_cell? _ _ hx375_0; first | rwa [add_block] at this | exact this) GW374.out); have hn375_1 : ad356.block ≠ gb374 := Nat.ne_of_lt (Nat.lt_of_lt_of_le (by have := World.block_lt_of_cell? _ _ hx375_0; first | rwa [add_block] at this | exact this) GW374.out); replace hx375_0 := (HB.out.cell (World.block_lt_of_cell? w _ hx375_0)).trans hx375_0; have HR375_0 := Aside0.mk hi375_0; have HC375_0 := Aside0.mk hl375_0; clear hi375_0 hl375_0; replace hx375_0 := (cell_far (p := ⟨gb374, 0, none⟩) (by first | (rw [add_block]; exact hn375_0) | (show (Addr.add _ _).block ≠ _; rw [add_block]; exact hn375_0) | exact hn375_0) (.string t371)).trans hx375_0; replace hx375_0 := (cell_far (p := ⟨gb374, 1, none⟩) (by first | (rw [add_block]; exact hn375_1) | (show (Addr.add _ _).block ≠ _; rw [add_block]; exact hn375_1) | exact hn375_1) (.string t372)).trans hx375_0; (try have hy375_0 := fun (n_ : Nat) => (show ((((w44.drewN n_).setCell ⟨gb374, 0, none⟩ (.string t371)).setCell ⟨gb374, 1, none⟩ (.string t372))).cell? _ = some _ from hx375_0)); clear hn375_0; clear hn375_1; replace p375 := eq_true p375; replace q375 := eq_true q375; have p376 : 0 ≤ (x5_3 : Int) := of_decide_eq_true (by first | (with_reducible assumption) | assumption); have q376 : x5_3 < ((rd_L4 l0 x4_1).length : Int) := of_decide_eq_true (by first | (with_reducible assumption) | assumption); obtain ⟨ad376, e376, hx376_0, hx376_1⟩ := at_T38 HR375_0.out x5_3 p376 q376; cases e376; have hn376_0 : ad376.block ≠ gb374 := Nat.ne_of_lt (Nat.lt_of_lt_of_le (by have := World.block_lt_of_cell? _ _ hx376_0; first | rwa [add_block] at this | exact this) GW374.out); have hn376_1 : ad376.block ≠ gb374 := Nat.ne_of_lt (Nat.lt_of_lt_of_le (by have := World.block_lt_of_cell? _ _ hx376_0; first | rwa [add_block] at this | exact this) GW374.out); replace hx376_0 := (HB.out.cell (World.block_lt_of_cell? w _ hx376_0)).trans hx376_0; replace hx376_1 := (HB.out.cell (World.block_lt_of_cell? w _ hx376_1)).trans hx376_1; replace hx376_0 := (cell_far (p := ⟨gb374, 0, none⟩) (by first | (rw [add_block]; exact hn376_0) | (show (Addr.add _ _).block ≠ _; rw [add_block]; exact hn376_0) | exact hn376_0) (.string t371)).trans hx376_0; replace hx376_1 := (cell_far (p := ⟨gb374, 0, none⟩) (by first | (rw [add_block]; exact hn376_0) | (show (Addr.add _ _).block ≠ _; rw [add_block]; exact hn376_0) | exact hn376_0) (.string t371)).trans hx376_1; replace hx376_0 := (cell_far (p := ⟨gb374, 1, none⟩) (by first | (rw [add_block]; exact hn376_1) | (show (Addr.add _ _).block ≠ _; rw [add_block]; exact hn376_1) | exact hn376_1) (.string t372)).trans hx376_0; replace hx376_1 := (cell_far (p := ⟨gb374, 1, none⟩) (by first | (rw [add_block]; exact hn376_1) | (show (Addr.add _ _).block ≠ _; rw [add_block]; exact hn376_1) | exact hn376_1) (.string t372)).trans hx376_1; (try have hy376_0 := fun (n_ : Nat) => (show ((((w44.drewN n_).setCell ⟨gb374, 0, none⟩ (.string t371)).setCell ⟨gb374, 1, none⟩ (.string t372))).cell? _ = some _ from hx376_0)); (try have hy376_1 := fun (n_ : Nat) => (show ((((w44.drewN n_).setCell ⟨gb374, 0, none⟩ (.string t371)).setCell ⟨gb374, 1, none⟩ (.string t372))).cell? _ = some _ from hx376_1)); clear hn376_0; clear hn376_1; replace p376 := eq_true p376; replace q376 := eq_true q376))
                                    repeat (go_quiet (first | (go_at_call 19; (with_reducible refine (spec_l6Term.calls k3 (((rd_T38 (rd_L4 l0 x4_1) x5_3).f0) ++ ((rd_T38 (rd_L4 l0 x4_1) x5_3).f1)) t371 t372 true _ A32.out).mono ?_); rintro e w43 ⟨rfl, hb⟩; have n0_ := Aside0.mk (below_step (by repeat (first | (with_reducible first | exact HB.out | apply below_alloc | apply pw_below_drewN | apply below_drew1) | exact HB.out)) hb); clear HB; have HB := n0_; clear n0_; (try clear hb); (try clear hb2); (try clear hk); (try clear hi); (try clear A32)) | ((with_reducible refine gate_dst (N := 7) rfl ?_); (try (refine gate_guard (by rfl) ?_; dsimp only)); refine box_event ?hg (N := 7) ?hd (cs := #[.string (⟨#[]⟩ : ByteArray), .string (⟨#[]⟩ : ByteArray)]) (t := 38) ?hr ?_; (case hd => rfl); (case hg => rfl); (case hr => first | (go_simp; done) | (go_simp; rfl)); intro gb374 hg w44 hbox hb; have n0_ := Aside0.mk (below_step (by repeat (first | (with_reducible first | exact HB.out | apply below_alloc | apply pw_below_drewN | apply below_drew1) | exact HB.out)) hb); have n1_ := Aside0.mk (hbox); have n2_ := Aside0.mk ((by rw [hg]; exact (below_size (by repeat (first | (with_reducible first | exact HB.out | apply below_alloc | apply pw_below_drewN | apply below_drew1) | exact HB.out))) : w.heap.size ≤ gb374)); have n3_ := Aside0.mk ((by rw [hg]; exact (below_size (by repeat (first | (with_reducible first | exact HB.out | apply below_alloc | apply pw_below_drewN | apply below_drew1) | exact HB.out))) : w.heap.size ≤ gb374)); clear HB; have HB := n0_; have BK374 := n1_; have GW374 := n2_; have GE374 := n3_; clear n0_ n1_ n2_ n3_; clear hb hbox hg; have hcz45_0 : w44.cell? ⟨gb374, 0, none⟩ = some (.string (⟨#[]⟩ : ByteArray)) := (blk_cell BK374.out 0).trans rfl; have hcz45_1 : w44.cell? ⟨gb374, 1, none⟩ = some (.string (⟨#[]⟩ : ByteArray)) := (blk_cell BK374.out 1).trans rfl; have hfz45_0 := blk_frozen BK374.out 0; have hfz45_1 := blk_frozen BK374.out 1; have p375 : 0 ≤ (x4_1 : Int) := of_decide_eq_true (by first | (with_reducible assumption) | assumption); have q375 : x4_1 < (l0.length : Int) := of_decide_eq_true (by first | (with_reducible assumption) | assumption); obtain ⟨ad375, A375_0, c375_0, e375, hx375_0, hl375_0, hi375_0⟩ := at_L4 HR0.out x4_1 p375 q375; obtain rfl : ad356 = ad375 := (by injection e375); have hn375_0 : ad356.block ≠ gb374 := Nat.ne_of_lt (Nat.lt_of_lt_of_le (by have := World.block_lt_of_cell? _ _ hx375_0; first | rwa [add_block] at this | exact this) GW374.out); have hn375_1 : ad356.block ≠ gb374 := Nat.ne_of_lt (Nat.lt_of_lt_of_le (by have := World.block_lt_of_cell? _ _ hx375_0; first | rwa [add_block] at this | exact this) GW374.out); replace hx375_0 := (HB.out.cell (World.block_lt_of_cell? w _ hx375_0)).trans hx375_0; have HR375_0 := Aside0.mk hi375_0; have HC375_0 := Aside0.mk hl375_0; clear hi375_0 hl375_0; replace hx375_0 := (cell_far (p := ⟨gb374, 0, none⟩) (by first | (rw [add_block]; exact hn375_0) | (show (Addr.add _ _).block ≠ _; rw [add_block]; exact hn375_0) | exact hn375_0) (.string t371)).trans hx375_0; replace hx375_0 := (cell_far (p := ⟨gb374, 1, none⟩) (by first | (rw [add_block]; exact hn375_1) | (show (Addr.add _ _).block ≠ _; rw [add_block]; exact hn375_1) | exact hn375_1) (.string t372)).trans hx375_0; (try have hy375_0 := fun (n_ : Nat) => (show ((((w44.drewN n_).setCell ⟨gb374, 0, none⟩ (.string t371)).setCell ⟨gb374, 1, none⟩ (.string t372))).cell? _ = some _ from hx375_0)); clear hn375_0; clear hn375_1; replace p375 := eq_true p375; replace q375 := eq_true q375; have p376 : 0 ≤ (x5_3 : Int) := of_decide_eq_true (by first | (with_reducible assumption) | assumption); have q376 : x5_3 < ((rd_L4 l0 x4_1).length : Int) := of_decide_eq_true (by first | (with_reducible assumption) | assumption); obtain ⟨ad376, e376, hx376_0, hx376_1⟩ := at_T38 HR375_0.out x5_3 p376 q376; cases e376; have hn376_0 : ad376.block ≠ gb374 := Nat.ne_of_lt (Nat.lt_of_lt_of_le (by have := World.block_lt_of_cell? _ _ hx376_0; first | rwa [add_block] at this | exact this) GW374.out); have hn376_1 : ad376.block ≠ gb374 := Nat.ne_of_lt (Nat.lt_of_lt_of_le (by have := World.block_lt_of_cell? _ _ hx376_0; first | rwa [add_block] at this | exact this) GW374.out); replace hx376_0 := (HB.out.cell (World.block_lt_of_cell? w _ hx376_0)).trans hx376_0; replace hx376_1 := (HB.out.cell (World.block_lt_of_cell? w _ hx376_1)).trans hx376_1; replace hx376_0 := (cell_far (p := ⟨gb374, 0, none⟩) (by first | (rw [add_block]; exact hn376_0) | (show (Addr.add _ _).block ≠ _; rw [add_block]; exact hn376_0) | exact hn376_0) (.string t371)).trans hx376_0; replace hx376_1 := (cell_far (p := ⟨gb374, 0, none⟩) (by first | (rw [add_block]; exact hn376_0) | (show (Addr.add _ _).block ≠ _; rw [add_block]; exact hn376_0) | exact hn376_0) (.string t371)).trans hx376_1; replace hx376_0 := (cell_far (p := ⟨gb374, 1, none⟩) (by first | (rw [add_block]; exact hn376_1) | (show (Addr.add _ _).block ≠ _; rw [add_block]; exact hn376_1) | exact hn376_1) (.string t372)).trans hx376_0; replace hx376_1 := (cell_far (p := ⟨gb374, 1, none⟩) (by first | (rw [add_block]; exact hn376_1) | (show (Addr.add _ _).block ≠ _; rw [add_block]; exact hn376_1) | exact hn376_1) (.string t372)).trans hx376_1; (try have hy376_0 := fun (n_ : Nat) => (show ((((w44.drewN n_).setCell ⟨gb374, 0, none⟩ (.string t371)).setCell ⟨gb374, 1, none⟩ (.string t372))).cell? _ = some _ from hx376_0)); (try have hy376_1 := fun (n_ : Nat) => (show ((((w44.drewN n_).setCell ⟨gb374, 0, none⟩ (.string t371)).setCell ⟨gb374, 1, none⟩ (.string t372))).cell? _ = some _ from hx376_1)); clear hn376_0; clear hn376_1; replace p376 := eq_true p376; replace q376 := eq_true q376)); try go_wp2_with (first | (go_at_call 19; (with_reducible refine (spec_l6Term.calls k3 (((rd_T38 (rd_L4 l0 x4_1) x5_3).f0) ++ ((rd_T38 (rd_L4 l0 x4_1) x5_3).f1)) t371 t372 true _ A32.out).mono ?_); rintro e w43 ⟨rfl, hb⟩; have n0_ := Aside0.mk (below_step (by repeat (first | (with_reducible first | exact HB.out | apply below_alloc | apply pw_below_drewN | apply below_drew1) | exact HB.out)) hb); clear HB; have HB := n0_; clear n0_; (try clear hb); (try clear hb2); (try clear hk); (try clear hi); (try clear A32)) | ((with_reducible refine gate_dst (N := 7) rfl ?_); (try (refine gate_guard (by rfl) ?_; dsimp only)); refine box_event ?hg (N := 7) ?hd (cs := #[.string (⟨#[]⟩ : ByteArray), .string (⟨#[]⟩ : ByteArray)]) (t := 38) ?hr ?_; (case hd => rfl); (case hg => rfl); (case hr => first | (go_simp; done) | (go_simp; rfl)); intro gb374 hg w44 hbox hb; have n0_ := Aside0.mk (below_step (by repeat (first | (with_reducible first | exact HB.out | apply below_alloc | apply pw_below_drewN | apply below_drew1) | exact HB.out)) hb); have n1_ := Aside0.mk (hbox); have n2_ := Aside0.mk ((by rw [hg]; exact (below_size (by repeat (first | (with_reducible first | exact HB.out | apply below_alloc | apply pw_below_drewN | apply below_drew1) | exact HB.out))) : w.heap.size ≤ gb374)); have n3_ := Aside0.mk ((by rw [hg]; exact (below_size (by repeat (first | (with_reducible first | exact HB.out | apply below_alloc | apply pw_below_drewN | apply below_drew1) | exact HB.out))) : w.heap.size ≤ gb374)); clear HB; have HB := n0_; have BK374 := n1_; have GW374 := n2_; have GE374 := n3_; clear n0_ n1_ n2_ n3_; clear hb hbox hg; have hcz45_0 : w44.cell? ⟨gb374, 0, none⟩ = some (.string (⟨#[]⟩ : ByteArray)) := (blk_cell BK374.out 0).trans rfl; have hcz45_1 : w44.cell? ⟨gb374, 1, none⟩ = some (.string (⟨#[]⟩ : ByteArray)) := (blk_cell BK374.out 1).trans rfl; have hfz45_0 := blk_frozen BK374.out 0; have hfz45_1 := blk_frozen BK374.out 1; have p375 : 0 ≤ (x4_1 : Int) := of_decide_eq_true (by first | (with_reducible assumption) | assumption); have q375 : x4_1 < (l0.length : Int) := of_decide_eq_true (by first | (with_reducible assumption) | assumption); obtain ⟨ad375, A375_0, c375_0, e375, hx375_0, hl375_0, hi375_0⟩ := at_L4 HR0.out x4_1 p375 q375; obtain rfl : ad356 = ad375 := (by injection e375); have hn375_0 : ad356.block ≠ gb374 := Nat.ne_of_lt (Nat.lt_of_lt_of_le (by have := World.block_lt_of_cell? _ _ hx375_0; first | rwa [add_block] at this | exact this) GW374.out); have hn375_1 : ad356.block ≠ gb374 := Nat.ne_of_lt (Nat.lt_of_lt_of_le (by have := World.block_lt_of_cell? _ _ hx375_0; first | rwa [add_block] at this | exact this) GW374.out); replace hx375_0 := (HB.out.cell (World.block_lt_of_cell? w _ hx375_0)).trans hx375_0; have HR375_0 := Aside0.mk hi375_0; have HC375_0 := Aside0.mk hl375_0; clear hi375_0 hl375_0; replace hx375_0 := (cell_far (p := ⟨gb374, 0, none⟩) (by first | (rw [add_block]; exact hn375_0) | (show (Addr.add _ _).block ≠ _; rw [add_block]; exact hn375_0) | exact hn375_0) (.string t371)).trans hx375_0; replace hx375_0 := (cell_far (p := ⟨gb374, 1, none⟩) (by first | (rw [add_block]; exact hn375_1) | (show (Addr.add _ _).block ≠ _; rw [add_block]; exact hn375_1) | exact hn375_1) (.string t372)).trans hx375_0; (try have hy375_0 := fun (n_ : Nat) => (show ((((w44.drewN n_).setCell ⟨gb374, 0, none⟩ (.string t371)).setCell ⟨gb374, 1, none⟩ (.string t372))).cell? _ = some _ from hx375_0)); clear hn375_0; clear hn375_1; replace p375 := eq_true p375; replace q375 := eq_true q375; have p376 : 0 ≤ (x5_3 : Int) := of_decide_eq_true (by first | (with_reducible assumption) | assumption); have q376 : x5_3 < ((rd_L4 l0 x4_1).length : Int) := of_decide_eq_true (by first | (with_reducible assumption) | assumption); obtain ⟨ad376, e376, hx376_0, hx376_1⟩ := at_T38 HR375_0.out x5_3 p376 q376; cases e376; have hn376_0 : ad376.block ≠ gb374 := Nat.ne_of_lt (Nat.lt_of_lt_of_le (by have := World.block_lt_of_cell? _ _ hx376_0; first | rwa [add_block] at this | exact this) GW374.out); have hn376_1 : ad376.block ≠ gb374 := Nat.ne_of_lt (Nat.lt_of_lt_of_le (by have := World.block_lt_of_cell? _ _ hx376_0; first | rwa [add_block] at this | exact this) GW374.out); replace hx376_0 := (HB.out.cell (World.block_lt_of_cell? w _ hx376_0)).trans hx376_0; replace hx376_1 := (HB.out.cell (World.block_lt_of_cell? w _ hx376_1)).trans hx376_1; replace hx376_0 := (cell_far (p := ⟨gb374, 0, none⟩) (by first | (rw [add_block]; exact hn376_0) | (show (Addr.add _ _).block ≠ _; rw [add_block]; exact hn376_0) | exact hn376_0) (.string t371)).trans hx376_0; replace hx376_1 := (cell_far (p := ⟨gb374, 0, none⟩) (by first | (rw [add_block]; exact hn376_0) | (show (Addr.add _ _).block ≠ _; rw [add_block]; exact hn376_0) | exact hn376_0) (.string t371)).trans hx376_1; replace hx376_0 := (cell_far (p := ⟨gb374, 1, none⟩) (by first | (rw [add_block]; exact hn376_1) | (show (Addr.add _ _).block ≠ _; rw [add_block]; exact hn376_1) | exact hn376_1) (.string t372)).trans hx376_0; replace hx376_1 := (cell_far (p := ⟨gb374, 1, none⟩) (by first | (rw [add_block]; exact hn376_1) | (show (Addr.add _ _).block ≠ _; rw [add_block]; exact hn376_1) | exact hn376_1) (.string t372)).trans hx376_1; (try have hy376_0 := fun (n_ : Nat) => (show ((((w44.drewN n_).setCell ⟨gb374, 0, none⟩ (.string t371)).setCell ⟨gb374, 1, none⟩ (.string t372))).cell? _ = some _ from hx376_0)); (try have hy376_1 := fun (n_ : Nat) => (show ((((w44.drewN n_).setCell ⟨gb374, 0, none⟩ (.string t371)).setCell ⟨gb374, 1, none⟩ (.string t372))).cell? _ = some _ from hx376_1)); clear hn376_0; clear hn376_1; replace p376 := eq_true p376; replace q376 := eq_true q376)))
                                    go_roundg k3
                                    case measure => have := HK1.out; have := HJ2.out; have := HK3.out; omega
                                    case rel => exact ⟨(x3_3 ++ (((rd_T38 (rd_L4 l0 x4_1) x5_3).f0) ++ ((rd_T38 (rd_L4 l0 x4_1) x5_3).f1))), (wrap64 (x5_3 + 1)), (by first | rfl | (simp; done) | (simp [*]; done)), (by first | rfl | (simp; done) | (simp [*]; done)), H', ⟨by have := HK1.out; have := HJ2.out; have := HK3.out; omega⟩, ⟨by repeat (first | (with_reducible first | exact HB.out | apply below_alloc | apply pw_below_drewN | apply below_drew1 | refine below_set ?_ GE374.out) | exact HB.out)⟩⟩
                                  · rw [if_neg c42] at H
                                    exact absurd H (by simp)
                            · replace c33 := Bool.eq_false_iff.mpr c33
                              subst c33
                              have H1 : (some (⟨#[]⟩ : ByteArray)) = some r := by rw [if_neg (show ¬ (false = true) by decide)] at H; exact H
                              clear H
                              have H := H1
                              clear H1
                              obtain rfl := Option.some.inj H
                              have p356 : 0 ≤ (x4_1 : Int) := of_decide_eq_true (by first | (with_reducible assumption) | assumption)
                              have q356 : x4_1 < (l0.length : Int) := of_decide_eq_true (by first | (with_reducible assumption) | assumption)
                              obtain ⟨ad356, A356_0, c356_0, e356, hx356_0, hl356_0, hi356_0⟩ := at_L4 HR0.out x4_1 p356 q356
                              cases e356
                              replace hx356_0 := (HB.out.cell (World.block_lt_of_cell? w _ hx356_0)).trans hx356_0
                              have HR356_0 := Aside0.mk hi356_0
                              have HC356_0 := Aside0.mk hl356_0
                              clear hi356_0 hl356_0
                              replace p356 := eq_true p356
                              replace q356 := eq_true q356
                              have p367 : 0 ≤ (x4_1 : Int) := of_decide_eq_true (by first | (with_reducible assumption) | assumption)
                              have q367 : x4_1 < (l0.length : Int) := of_decide_eq_true (by first | (with_reducible assumption) | assumption)
                              obtain ⟨ad367, A367_0, c367_0, e367, hx367_0, hl367_0, hi367_0⟩ := at_L4 HR0.out x4_1 p367 q367
                              obtain rfl : ad356 = ad367 := (by injection e367)
                              replace hx367_0 := (HB.out.cell (World.block_lt_of_cell? w _ hx367_0)).trans hx367_0
                              have HR367_0 := Aside0.mk hi367_0
                              have HC367_0 := Aside0.mk hl367_0
                              clear hi367_0 hl367_0
                              replace p367 := eq_true p367
                              replace q367 := eq_true q367
                              have ea_ := Option.some.inj (hx356_0.symm.trans hx367_0)
                              injection ea_ with ea_ en_ ec_
                              subst ea_
                              subst ec_
                              clear en_
                              have p368 : 0 ≤ (x5_3 : Int) := of_decide_eq_true (by first | (with_reducible assumption) | assumption)
                              have q368 : x5_3 < ((rd_L4 l0 x4_1).length : Int) := of_decide_eq_true (by first | (with_reducible assumption) | assumption)
                              obtain ⟨ad368, e368, hx368_0, hx368_1⟩ := at_T38 HR367_0.out x5_3 p368 q368
                              cases e368
                              replace hx368_0 := (HB.out.cell (World.block_lt_of_cell? w _ hx368_0)).trans hx368_0
                              replace hx368_1 := (HB.out.cell (World.block_lt_of_cell? w _ hx368_1)).trans hx368_1
                              replace p368 := eq_true p368
                              replace q368 := eq_true q368
                              have p369 : 0 ≤ (x4_1 : Int) := of_decide_eq_true (by first | (with_reducible assumption) | assumption)
                              have q369 : x4_1 < (l0.length : Int) := of_decide_eq_true (by first | (with_reducible assumption) | assumption)
                              obtain ⟨ad369, A369_0, c369_0, e369, hx369_0, hl369_0, hi369_0⟩ := at_L4 HR0.out x4_1 p369 q369
                              obtain rfl : ad356 = ad369 := (by injection e369)
                              replace hx369_0 := (HB.out.cell (World.block_lt_of_cell? w _ hx369_0)).trans hx369_0
                              have HR369_0 := Aside0.mk hi369_0
                              have HC369_0 := Aside0.mk hl369_0
                              clear hi369_0 hl369_0
                              replace p369 := eq_true p369
                              replace q369 := eq_true q369
                              have ea_ := Option.some.inj (hx356_0.symm.trans hx369_0)
                              injection ea_ with ea_ en_ ec_
                              subst ea_
                              subst ec_
                              clear en_
                              have p370 : 0 ≤ (x5_3 : Int) := of_decide_eq_true (by first | (with_reducible assumption) | assumption)
                              have q370 : x5_3 < ((rd_L4 l0 x4_1).length : Int) := of_decide_eq_true (by first | (with_reducible assumption) | assumption)
                              obtain ⟨ad370, e370, hx370_0, hx370_1⟩ := at_T38 HR369_0.out x5_3 p370 q370
                              cases e370
                              replace hx370_0 := (HB.out.cell (World.block_lt_of_cell? w _ hx370_0)).trans hx370_0
                              replace hx370_1 := (HB.out.cell (World.block_lt_of_cell? w _ hx370_1)).trans hx370_1
                              replace p370 := eq_true p370
                              replace q370 := eq_true q370
                              go_wp2_with (first | (go_at_call 19; (with_reducible refine (spec_l6Term.calls k3 (((rd_T38 (rd_L4 l0 x4_1) x5_3).f0) ++ ((rd_T38 (rd_L4 l0 x4_1) x5_3).f1)) t371 t372 false _ A32.out).mono ?_); rintro e w46 ⟨rfl, hb⟩; have n0_ := Aside0.mk (below_step (by repeat (first | (with_reducible first | exact HB.out | apply below_alloc | apply pw_below_drewN | apply below_drew1) | exact HB.out)) hb); clear HB; have HB := n0_; clear n0_; (try clear hb); (try clear hb2); (try clear hk); (try clear hi)) | ((with_reducible refine gate_dst (N := 7) rfl ?_); (try (refine gate_guard (by rfl) ?_; dsimp only)); refine box_event ?hg (N := 7) ?hd (cs := #[.string (⟨#[]⟩ : ByteArray), .string (⟨#[]⟩ : ByteArray)]) (t := 38) ?hr ?_; (case hd => rfl); (case hg => rfl); (case hr => first | (go_simp; done) | (go_simp; rfl)); intro gb374 hg w47 hbox hb; have n0_ := Aside0.mk (below_step (by repeat (first | (with_reducible first | exact HB.out | apply below_alloc | apply pw_below_drewN | apply below_drew1) | exact HB.out)) hb); have n1_ := Aside0.mk (hbox); have n2_ := Aside0.mk ((by rw [hg]; exact (below_size (by repeat (first | (with_reducible first | exact HB.out | apply below_alloc | apply pw_below_drewN | apply below_drew1) | exact HB.out))) : w.heap.size ≤ gb374)); have n3_ := Aside0.mk ((by rw [hg]; exact (below_size (by repeat (first | (with_reducible first | exact HB.out | apply below_alloc | apply pw_below_drewN | apply below_drew1) | exact HB.out))) : w.heap.size ≤ gb374)); clear HB; have HB := n0_; have BK374 := n1_; have GW374 := n2_; have GE374 := n3_; clear n0_ n1_ n2_ n3_; clear hb hbox hg; have hcz48_0 : w47.cell? ⟨gb374, 0, none⟩ = some (.string (⟨#[]⟩ : ByteArray)) := (blk_cell BK374.out 0).trans rfl; have hcz48_1 : w47.cell? ⟨gb374, 1, none⟩ = some (.string (⟨#[]⟩ : ByteArray)) := (blk_cell BK374.out 1).trans rfl; have hfz48_0 := blk_frozen BK374.out 0; have hfz48_1 := blk_frozen BK374.out 1))
                              repeat (go_quiet (first | (go_at_call 19; (with_reducible refine (spec_l6Term.calls k3 (((rd_T38 (rd_L4 l0 x4_1) x5_3).f0) ++ ((rd_T38 (rd_L4 l0 x4_1) x5_3).f1)) t371 t372 false _ A32.out).mono ?_); rintro e w46 ⟨rfl, hb⟩; have n0_ := Aside0.mk (below_step (by repeat (first | (with_reducible first | exact HB.out | apply below_alloc | apply pw_below_drewN | apply below_drew1) | exact HB.out)) hb); clear HB; have HB := n0_; clear n0_; (try clear hb); (try clear hb2); (try clear hk); (try clear hi); (try clear A32)) | ((with_reducible refine gate_dst (N := 7) rfl ?_); (try (refine gate_guard (by rfl) ?_; dsimp only)); refine box_event ?hg (N := 7) ?hd (cs := #[.string (⟨#[]⟩ : ByteArray), .string (⟨#[]⟩ : ByteArray)]) (t := 38) ?hr ?_; (case hd => rfl); (case hg => rfl); (case hr => first | (go_simp; done) | (go_simp; rfl)); intro gb374 hg w47 hbox hb; have n0_ := Aside0.mk (below_step (by repeat (first | (with_reducible first | exact HB.out | apply below_alloc | apply pw_below_drewN | apply below_drew1) | exact HB.out)) hb); have n1_ := Aside0.mk (hbox); have n2_ := Aside0.mk ((by rw [hg]; exact (below_size (by repeat (first | (with_reducible first | exact HB.out | apply below_alloc | apply pw_below_drewN | apply below_drew1) | exact HB.out))) : w.heap.size ≤ gb374)); have n3_ := Aside0.mk ((by rw [hg]; exact (below_size (by repeat (first | (with_reducible first | exact HB.out | apply below_alloc | apply pw_below_drewN | apply below_drew1) | exact HB.out))) : w.heap.size ≤ gb374)); clear HB; have HB := n0_; have BK374 := n1_; have GW374 := n2_; have GE374 := n3_; clear n0_ n1_ n2_ n3_; clear hb hbox hg; have hcz48_0 : w47.cell? ⟨gb374, 0, none⟩ = some (.string (⟨#[]⟩ : ByteArray)) := (blk_cell BK374.out 0).trans rfl; have hcz48_1 : w47.cell? ⟨gb374, 1, none⟩ = some (.string (⟨#[]⟩ : ByteArray)) := (blk_cell BK374.out 1).trans rfl; have hfz48_0 := blk_frozen BK374.out 0; have hfz48_1 := blk_frozen BK374.out 1)); try go_wp2_with (first | (go_at_call 19; (with_reducible refine (spec_l6Term.calls k3 (((rd_T38 (rd_L4 l0 x4_1) x5_3).f0) ++ ((rd_T38 (rd_L4 l0 x4_1) x5_3).f1)) t371 t372 false _ A32.out).mono ?_); rintro e w46 ⟨rfl, hb⟩; have n0_ := Aside0.mk (below_step (by repeat (first | (with_reducible first | exact HB.out | apply below_alloc | apply pw_below_drewN | apply below_drew1) | exact HB.out)) hb); clear HB; have HB := n0_; clear n0_; (try clear hb); (try clear hb2); (try clear hk); (try clear hi); (try clear A32)) | ((with_reducible refine gate_dst (N := 7) rfl ?_); (try (refine gate_guard (by rfl) ?_; dsimp only)); refine box_event ?hg (N := 7) ?hd (cs := #[.string (⟨#[]⟩ : ByteArray), .string (⟨#[]⟩ : ByteArray)]) (t := 38) ?hr ?_; (case hd => rfl); (case hg => rfl); (case hr => first | (go_simp; done) | (go_simp; rfl)); intro gb374 hg w47 hbox hb; have n0_ := Aside0.mk (below_step (by repeat (first | (with_reducible first | exact HB.out | apply below_alloc | apply pw_below_drewN | apply below_drew1) | exact HB.out)) hb); have n1_ := Aside0.mk (hbox); have n2_ := Aside0.mk ((by rw [hg]; exact (below_size (by repeat (first | (with_reducible first | exact HB.out | apply below_alloc | apply pw_below_drewN | apply below_drew1) | exact HB.out))) : w.heap.size ≤ gb374)); have n3_ := Aside0.mk ((by rw [hg]; exact (below_size (by repeat (first | (with_reducible first | exact HB.out | apply below_alloc | apply pw_below_drewN | apply below_drew1) | exact HB.out))) : w.heap.size ≤ gb374)); clear HB; have HB := n0_; have BK374 := n1_; have GW374 := n2_; have GE374 := n3_; clear n0_ n1_ n2_ n3_; clear hb hbox hg; have hcz48_0 : w47.cell? ⟨gb374, 0, none⟩ = some (.string (⟨#[]⟩ : ByteArray)) := (blk_cell BK374.out 0).trans rfl; have hcz48_1 : w47.cell? ⟨gb374, 1, none⟩ = some (.string (⟨#[]⟩ : ByteArray)) := (blk_cell BK374.out 1).trans rfl; have hfz48_0 := blk_frozen BK374.out 0; have hfz48_1 := blk_frozen BK374.out 1)))
                              go_ret
                              exact ⟨by first | rfl | (simp [errW_none, errW_some] <;> rfl) | (simp [*, errW_none, errW_some] <;> rfl), by repeat (first | (with_reducible first | exact HB.out | apply below_alloc | apply pw_below_drewN | apply below_drew1 | refine below_set ?_ GE374.out) | exact HB.out)⟩
                          · rw [if_neg c31] at H
                            exact absurd H (by simp)
                        · rw [if_neg c30] at H
                          exact absurd H (by simp)
                    · rw [if_neg c8] at H
                      have c8b0 : decide (x5_3 < ((rd_L4 l0 x4_1).length : Int)) = false := decide_eq_false c8
                      (try (have c8b0' := c8b0; simp only [hl375_0] at c8b0'))
                      clear c8
                      have H' := Aside0.mk H
                      clear H
                      have p356 : 0 ≤ (x4_1 : Int) := of_decide_eq_true (by first | (with_reducible assumption) | assumption)
                      have q356 : x4_1 < (l0.length : Int) := of_decide_eq_true (by first | (with_reducible assumption) | assumption)
                      obtain ⟨ad356, A356_0, c356_0, e356, hx356_0, hl356_0, hi356_0⟩ := at_L4 HR0.out x4_1 p356 q356
                      cases e356
                      replace hx356_0 := (HB.out.cell (World.block_lt_of_cell? w _ hx356_0)).trans hx356_0
                      have HR356_0 := Aside0.mk hi356_0
                      have HC356_0 := Aside0.mk hl356_0
                      clear hi356_0 hl356_0
                      replace p356 := eq_true p356
                      replace q356 := eq_true q356
                      go_wp2
                      repeat (go_quiet (fail); try go_wp2)
                      go_roundg k3
                      case measure => have := HK1.out; have := HJ2.out; have := HK3.out; omega
                      case rel => exact ⟨(x3_3), (wrap64 (x4_1 + 1)), (by first | rfl | (simp; done) | (simp [*]; done)), (by first | rfl | (simp; done) | (simp [*]; done)), H', ⟨by have := HK1.out; have := HJ2.out; have := HK3.out; omega⟩, ⟨by repeat (first | (with_reducible first | exact HB.out | apply below_alloc | apply pw_below_drewN | apply below_drew1) | exact HB.out)⟩⟩
                  · rw [if_neg c7] at H
                    exact absurd H (by simp)
                · rw [if_neg c6] at H
                  exact absurd H (by simp)
      · rw [if_neg c2] at H
        have c2b0 : decide (x4_1 < (l0.length : Int)) = false := decide_eq_false c2
        (try (have c2b0' := c2b0; simp only [hl375_0] at c2b0'))
        clear c2
        replace H := Option.bind_eq_some_iff.mp H
        obtain ⟨⟨t352, t353⟩, A490, H⟩ := H
        replace H : (if t353 = true then (if (l0.length : Int) = 0 then (some (⟨#[]⟩ : ByteArray)) else (some x3_1)) else (some (⟨#[]⟩ : ByteArray))) = some r := H
        have A49 := Aside0.mk A490
        clear A490
        by_cases c50 : t353 = true
        · subst c50
          have H1 : (if (l0.length : Int) = 0 then (some (⟨#[]⟩ : ByteArray)) else (some x3_1)) = some r := by rw [if_pos rfl] at H; exact H
          clear H
          have H := H1
          clear H1
          by_cases c51 : (l0.length : Int) = 0
          · rw [if_pos c51] at H
            have c51b0 : ((l0.length : Int) == 0) = true := beq_iff_eq.mpr c51
            have c51b1 : ((l0.length : Int) != 0) = false := bne_eq_false_iff_eq.mpr c51
            clear c51
            obtain rfl := Option.some.inj H
            go_wp2_with (first | (go_at_call 6; (with_reducible refine (spec_ReadConstraint.calls k1 x3_1 t352 true _ A49.out).mono ?_); rintro e w52 ⟨v354, rfl, ho0, hb⟩; have n0_ := Aside0.mk (Kd.S_lower ho0 (below_size (by repeat (first | (with_reducible first | exact HB.out | apply below_alloc | apply pw_below_drewN | apply below_drew1) | exact HB.out)))); have n1_ := Aside0.mk (below_step (by repeat (first | (with_reducible first | exact HB.out | apply below_alloc | apply pw_below_drewN | apply below_drew1) | exact HB.out)) hb); clear HB; have HO355 := n0_; have HB := n1_; clear n0_ n1_; (try clear hb); (try clear hb2); (try clear hk); (try clear hi); (try clear ho0)))
            repeat (go_quiet (first | (go_at_call 6; (with_reducible refine (spec_ReadConstraint.calls k1 x3_1 t352 true _ A49.out).mono ?_); rintro e w52 ⟨v354, rfl, ho0, hb⟩; have n0_ := Aside0.mk (Kd.S_lower ho0 (below_size (by repeat (first | (with_reducible first | exact HB.out | apply below_alloc | apply pw_below_drewN | apply below_drew1) | exact HB.out)))); have n1_ := Aside0.mk (below_step (by repeat (first | (with_reducible first | exact HB.out | apply below_alloc | apply pw_below_drewN | apply below_drew1) | exact HB.out)) hb); clear HB; have HO355 := n0_; have HB := n1_; clear n0_ n1_; (try clear hb); (try clear hb2); (try clear hk); (try clear hi); (try clear ho0))); try go_wp2_with (first | (go_at_call 6; (with_reducible refine (spec_ReadConstraint.calls k1 x3_1 t352 true _ A49.out).mono ?_); rintro e w52 ⟨v354, rfl, ho0, hb⟩; have n0_ := Aside0.mk (Kd.S_lower ho0 (below_size (by repeat (first | (with_reducible first | exact HB.out | apply below_alloc | apply pw_below_drewN | apply below_drew1) | exact HB.out)))); have n1_ := Aside0.mk (below_step (by repeat (first | (with_reducible first | exact HB.out | apply below_alloc | apply pw_below_drewN | apply below_drew1) | exact HB.out)) hb); clear HB; have HO355 := n0_; have HB := n1_; clear n0_ n1_; (try clear hb); (try clear hb2); (try clear hk); (try clear hi); (try clear ho0))))
            go_ret
            exact ⟨by first | rfl | (simp [errW_none, errW_some] <;> rfl) | (simp [*, errW_none, errW_some] <;> rfl), by repeat (first | (with_reducible first | exact HB.out | apply below_alloc | apply pw_below_drewN | apply below_drew1) | exact HB.out)⟩
          · rw [if_neg c51] at H
            have c51b0 : ((l0.length : Int) == 0) = false := beq_eq_false_iff_ne.mpr c51
            have c51b1 : ((l0.length : Int) != 0) = true := bne_iff_ne.mpr c51
            have c51b2 : ¬ (l0 = []) := fun h_ => c51 (by rw [h_]; rfl)
            obtain rfl := Option.some.inj H
            go_wp2_with (first | (go_at_call 6; (with_reducible refine (spec_ReadConstraint.calls k1 x3_1 t352 true _ A49.out).mono ?_); rintro e w53 ⟨v354, rfl, ho0, hb⟩; have n0_ := Aside0.mk (Kd.S_lower ho0 (below_size (by repeat (first | (with_reducible first | exact HB.out | apply below_alloc | apply pw_below_drewN | apply below_drew1) | exact HB.out)))); have n1_ := Aside0.mk (below_step (by repeat (first | (with_reducible first | exact HB.out | apply below_alloc | apply pw_below_drewN | apply below_drew1) | exact HB.out)) hb); clear HB; have HO355 := n0_; have HB := n1_; clear n0_ n1_; (try clear hb); (try clear hb2); (try clear hk); (try clear hi); (try clear ho0)))
            repeat (go_quiet (first | (go_at_call 6; (with_reducible refine (spec_ReadConstraint.calls k1 x3_1 t352 true _ A49.out).mono ?_); rintro e w53 ⟨v354, rfl, ho0, hb⟩; have n0_ := Aside0.mk (Kd.S_lower ho0 (below_size (by repeat (first | (with_reducible first | exact HB.out | apply below_alloc | apply pw_below_drewN | apply below_drew1) | exact HB.out)))); have n1_ := Aside0.mk (below_step (by repeat (first | (with_reducible first | exact HB.out | apply below_alloc | apply pw_below_drewN | apply below_drew1) | exact HB.out)) hb); clear HB; have HO355 := n0_; have HB := n1_; clear n0_ n1_; (try clear hb); (try clear hb2); (try clear hk); (try clear hi); (try clear ho0))); try go_wp2_with (first | (go_at_call 6; (with_reducible refine (spec_ReadConstraint.calls k1 x3_1 t352 true _ A49.out).mono ?_); rintro e w53 ⟨v354, rfl, ho0, hb⟩; have n0_ := Aside0.mk (Kd.S_lower ho0 (below_size (by repeat (first | (with_reducible first | exact HB.out | apply below_alloc | apply pw_below_drewN | apply below_drew1) | exact HB.out)))); have n1_ := Aside0.mk (below_step (by repeat (first | (with_reducible first | exact HB.out | apply below_alloc | apply pw_below_drewN | apply below_drew1) | exact HB.out)) hb); clear HB; have HO355 := n0_; have HB := n1_; clear n0_ n1_; (try clear hb); (try clear hb2); (try clear hk); (try clear hi); (try clear ho0))))
            go_ret
            exact ⟨by first | rfl | (simp [errW_none, errW_some] <;> rfl) | (simp [*, errW_none, errW_some] <;> rfl), by repeat (first | (with_reducible first | exact HB.out | apply below_alloc | apply pw_below_drewN | apply below_drew1) | exact HB.out)⟩
        · replace c50 := Bool.eq_false_iff.mpr c50
          subst c50
          have H1 : (some (⟨#[]⟩ : ByteArray)) = some r := by rw [if_neg (show ¬ (false = true) by decide)] at H; exact H
          clear H
          have H := H1
          clear H1
          obtain rfl := Option.some.inj H
          go_wp2_with (first | (go_at_call 6; (with_reducible refine (spec_ReadConstraint.calls k1 x3_1 t352 false _ A49.out).mono ?_); rintro e w54 ⟨v354, rfl, ho0, hb⟩; have n0_ := Aside0.mk (Kd.S_lower ho0 (below_size (by repeat (first | (with_reducible first | exact HB.out | apply below_alloc | apply pw_below_drewN | apply below_drew1) | exact HB.out)))); have n1_ := Aside0.mk (below_step (by repeat (first | (with_reducible first | exact HB.out | apply below_alloc | apply pw_below_drewN | apply below_drew1) | exact HB.out)) hb); clear HB; have HO355 := n0_; have HB := n1_; clear n0_ n1_; (try clear hb); (try clear hb2); (try clear hk); (try clear hi); (try clear ho0)))
          repeat (go_quiet (first | (go_at_call 6; (with_reducible refine (spec_ReadConstraint.calls k1 x3_1 t352 false _ A49.out).mono ?_); rintro e w54 ⟨v354, rfl, ho0, hb⟩; have n0_ := Aside0.mk (Kd.S_lower ho0 (below_size (by repeat (first | (with_reducible first | exact HB.out | apply below_alloc | apply pw_below_drewN | apply below_drew1) | exact HB.out)))); have n1_ := Aside0.mk (below_step (by repeat (first | (with_reducible first | exact HB.out | apply below_alloc | apply pw_below_drewN | apply below_drew1) | exact HB.out)) hb); clear HB; have HO355 := n0_; have HB := n1_; clear n0_ n1_; (try clear hb); (try clear hb2); (try clear hk); (try clear hi); (try clear ho0))); try go_wp2_with (first | (go_at_call 6; (with_reducible refine (spec_ReadConstraint.calls k1 x3_1 t352 false _ A49.out).mono ?_); rintro e w54 ⟨v354, rfl, ho0, hb⟩; have n0_ := Aside0.mk (Kd.S_lower ho0 (below_size (by repeat (first | (with_reducible first | exact HB.out | apply below_alloc | apply pw_below_drewN | apply below_drew1) | exact HB.out)))); have n1_ := Aside0.mk (below_step (by repeat (first | (with_reducible first | exact HB.out | apply below_alloc | apply pw_below_drewN | apply below_drew1) | exact HB.out)) hb); clear HB; have HO355 := n0_; have HB := n1_; clear n0_ n1_; (try clear hb); (try clear hb2); (try clear hk); (try clear hi); (try clear ho0))))
          go_ret
          exact ⟨by first | rfl | (simp [errW_none, errW_some] <;> rfl) | (simp [*, errW_none, errW_some] <;> rfl), by repeat (first | (with_reducible first | exact HB.out | apply below_alloc | apply pw_below_drewN | apply below_drew1) | exact HB.out)⟩
end Go.Proofs.YthfohhpjanoimaaDoor.P
end

section
namespace Go.Proofs.YthfohhpjanoimaaDoor.P
open Go.RowKit Go.Proofs.YthfohhpjanoimaaDoorW.PrintWords Go.Proofs.YthfohhpjanoimaaDoorW.PrintLast Go.Proofs.YthfohhpjanoimaaDoorW.PrintMore Go.Proofs.YthfohhpjanoimaaDoorM
attribute [local go_sem] max2_int min2_int max_two min_two max_three min_three max_four min_four   -- for this text's walks alone
set_option linter.unusedVariables false
set_option linter.unusedSimpArgs false
def laws_toTerm.f (a0_0 : ByteArray) (a0_1 : ByteArray) : Option (ByteArray × ByteArray) := some (a0_0, a0_1)
set_option maxHeartbeats 8000000 in
set_option maxRecDepth 100000 in
theorem laws_toTerm.calls (a0_0 : ByteArray) (a0_1 : ByteArray) (r1 : ByteArray) (r2 : ByteArray) (w : World) (h : laws_toTerm.f a0_0 a0_1 = some (r1, r2)) :
    Calls Tryd.prog 47 #[.agg #[.string a0_0, .string a0_1]] w fun e w' => e = .returned (.agg #[.string r1, .string r2]) ∧ Below w.heap.size w w' := by
  have hu69 := Tryd.underlying69
  have hu38 := Tryd.underlying38
  have HB := Aside0.mk (Below.refl w.heap.size w)
  have H : (some (a0_0, a0_1)) = some (r1, r2) := h
  clear h
  simp only [Option.some.injEq, Prod.mk.injEq] at H
  obtain ⟨rfl, rfl⟩ := H
  go_enter Tryd.func47, Tryd.ntmps47
  go_wp2_with (first | ((with_reducible refine gate_dst (N := 1) rfl ?_); refine box_event ?hg (N := 1) ?hd (cs := #[.string a0_0, .string a0_1]) (t := 69) ?hr ?_; (case hd => rfl); (case hg => rfl); (case hr => first | (go_simp; done) | (go_simp; rfl)); intro gb377 hg w2 hbox hb; have n0_ := Aside0.mk (below_step (by repeat (first | (with_reducible first | exact HB.out | apply below_alloc | apply pw_below_drewN | apply below_drew1) | exact HB.out)) hb); have n1_ := Aside0.mk (hbox); have n2_ := Aside0.mk ((by rw [hg]; exact (below_size (by repeat (first | (with_reducible first | exact HB.out | apply below_alloc | apply pw_below_drewN | apply below_drew1) | exact HB.out))) : w.heap.size ≤ gb377)); have n3_ := Aside0.mk ((by rw [hg]; exact (below_size (by repeat (first | (with_reducible first | exact HB.out | apply below_alloc | apply pw_below_drewN | apply below_drew1) | exact HB.out))) : w.heap.size ≤ gb377)); clear HB; have HB := n0_; have BK377 := n1_; have GW377 := n2_; have GE377 := n3_; clear n0_ n1_ n2_ n3_; clear hb hbox hg) | ((with_reducible refine gate_dst (N := 2) rfl ?_); refine box_event ?hg (N := 2) ?hd (cs := #[.string (⟨#[]⟩ : ByteArray), .string (⟨#[]⟩ : ByteArray)]) (t := 38) ?hr ?_; (case hd => rfl); (case hg => rfl); (case hr => first | (go_simp; done) | (go_simp; rfl)); intro gb378 hg w3 hbox hb; have n0_ := Aside0.mk (blk_below (g := gb377) (o := .cells #[.string a0_0, .string a0_1] 69 (0, 0)) (by (with_reducible repeat (first | refine blk_drewN ?_ _ | refine blk_drew ?_ | refine blk_alloc ?_ _)); exact BK377.out) hb); have n1_ := Aside0.mk (below_step (by repeat (first | (with_reducible first | exact HB.out | apply below_alloc | apply pw_below_drewN | apply below_drew1 | refine below_set ?_ GE377.out) | exact HB.out)) hb); have n2_ := Aside0.mk (hbox); have n3_ := Aside0.mk ((by rw [hg]; exact (below_size (by repeat (first | (with_reducible first | exact HB.out | apply below_alloc | apply pw_below_drewN | apply below_drew1 | refine below_set ?_ GE377.out) | exact HB.out))) : w.heap.size ≤ gb378)); have n4_ := Aside0.mk ((by rw [hg]; exact (below_size (by repeat (first | (with_reducible first | exact HB.out | apply below_alloc | apply pw_below_drewN | apply below_drew1 | refine below_set ?_ GE377.out) | exact HB.out))) : w.heap.size ≤ gb378)); have n5_ := Aside0.mk ((by rw [hg]; exact Nat.ne_of_lt (blk_lt (g := gb377) (o := .cells #[.string a0_0, .string a0_1] 69 (0, 0)) (by (with_reducible repeat (first | refine blk_drewN ?_ _ | refine blk_drew ?_ | refine blk_alloc ?_ _)); exact BK377.out)) : gb377 ≠ gb378)); have n6_ := Aside0.mk ((by rw [hg]; exact Nat.ne_of_gt (blk_lt (g := gb377) (o := .cells #[.string a0_0, .string a0_1] 69 (0, 0)) (by (with_reducible repeat (first | refine blk_drewN ?_ _ | refine blk_drew ?_ | refine blk_alloc ?_ _)); exact BK377.out)) : gb378 ≠ gb377)); clear BK377; clear HB; have BK377 := n0_; have HB := n1_; have BK378 := n2_; have GW378 := n3_; have GE378 := n4_; have NB377_378 := n5_; have NB378_377 := n6_; clear n0_ n1_ n2_ n3_ n4_ n5_ n6_; clear hb hbox hg) | ((with_reducible refine gate_dst (N := 3) rfl ?_); refine box_event ?hg (N := 3) ?hd (cs := #[.string (⟨#[]⟩ : ByteArray), .string (⟨#[]⟩ : ByteArray)]) (t := 38) ?hr ?_; (case hd => rfl); (case hg => rfl); (case hr => first | (go_simp; done) | (go_simp; rfl)); intro gb379 hg w4 hbox hb; have n0_ := Aside0.mk (blk_below (g := gb377) (o := .cells #[.string a0_0, .string a0_1] 69 (0, 0)) (by (with_reducible repeat (first | refine blk_drewN ?_ _ | refine blk_drew ?_ | refine blk_alloc ?_ _)); exact BK377.out) hb); have n1_ := Aside0.mk (blk_below (g := gb378) (o := .cells #[.string (⟨#[]⟩ : ByteArray), .string (⟨#[]⟩ : ByteArray)] 38 (0, 0)) (by (with_reducible repeat (first | refine blk_drewN ?_ _ | refine blk_drew ?_ | refine blk_alloc ?_ _)); exact BK378.out) hb); have n2_ := Aside0.mk (below_step (by repeat (first | (with_reducible first | exact HB.out | apply below_alloc | apply pw_below_drewN | apply below_drew1 | refine below_set ?_ GE377.out | refine below_set ?_ GE378.out) | exact HB.out)) hb); have n3_ := Aside0.mk (hbox); have n4_ := Aside0.mk ((by rw [hg]; exact (below_size (by repeat (first | (with_reducible first | exact HB.out | apply below_alloc | apply pw_below_drewN | apply below_drew1 | refine below_set ?_ GE377.out | refine below_set ?_ GE378.out) | exact HB.out))) : w.heap.size ≤ gb379)); have n5_ := Aside0.mk ((by rw [hg]; exact (below_size (by repeat (first | (with_reducible first | exact HB.out | apply below_alloc | apply pw_below_drewN | apply below_drew1 | refine below_set ?_ GE377.out | refine below_set ?_ GE378.out) | exact HB.out))) : w.heap.size ≤ gb379)); have n6_ := Aside0.mk ((by rw [hg]; exact Nat.ne_of_lt (blk_lt (g := gb377) (o := .cells #[.string a0_0, .string a0_1] 69 (0, 0)) (by (with_reducible repeat (first | refine blk_drewN ?_ _ | refine blk_drew ?_ | refine blk_alloc ?_ _)); exact BK377.out)) : gb377 ≠ gb379)); have n7_ := Aside0.mk ((by rw [hg]; exact Nat.ne_of_gt (blk_lt (g := gb377) (o := .cells #[.string a0_0, .string a0_1] 69 (0, 0)) (by (with_reducible repeat (first | refine blk_drewN ?_ _ | refine blk_drew ?_ | refine blk_alloc ?_ _)); exact BK377.out)) : gb379 ≠ gb377)); have n8_ := Aside0.mk ((by rw [hg]; exact Nat.ne_of_lt (blk_lt (g := gb378) (o := .cells #[.string (⟨#[]⟩ : ByteArray), .string (⟨#[]⟩ : ByteArray)] 38 (0, 0)) (by (with_reducible repeat (first | refine blk_drewN ?_ _ | refine blk_drew ?_ | refine blk_alloc ?_ _)); exact BK378.out)) : gb378 ≠ gb379)); have n9_ := Aside0.mk ((by rw [hg]; exact Nat.ne_of_gt (blk_lt (g := gb378) (o := .cells #[.string (⟨#[]⟩ : ByteArray), .string (⟨#[]⟩ : ByteArray)] 38 (0, 0)) (by (with_reducible repeat (first | refine blk_drewN ?_ _ | refine blk_drew ?_ | refine blk_alloc ?_ _)); exact BK378.out)) : gb379 ≠ gb378)); clear BK377; clear BK378; clear HB; have BK377 := n0_; have BK378 := n1_; have HB := n2_; have BK379 := n3_; have GW379 := n4_; have GE379 := n5_; have NB377_379 := n6_; have NB379_377 := n7_; have NB378_379 := n8_; have NB379_378 := n9_; clear n0_ n1_ n2_ n3_ n4_ n5_ n6_ n7_ n8_ n9_; clear hb hbox hg; have hnb5 := NB377_378.out; have hnc5 := NB378_377.out; have hnb6 := NB377_379.out; have hnc6 := NB379_377.out; have hcz7_0 : w4.cell? ⟨gb377, 0, none⟩ = some (.string a0_0) := (blk_cell BK377.out 0).trans rfl; have hcz7_1 : w4.cell? ⟨gb377, 1, none⟩ = some (.string a0_1) := (blk_cell BK377.out 1).trans rfl; have hfz7_0 := blk_frozen BK377.out 0; have hfz7_1 := blk_frozen BK377.out 1; have hnb8 := NB379_378.out; have hnc8 := NB378_379.out; have hcz9_0 : w4.cell? ⟨gb379, 0, none⟩ = some (.string (⟨#[]⟩ : ByteArray)) := (blk_cell BK379.out 0).trans rfl; have hcz9_1 : w4.cell? ⟨gb379, 1, none⟩ = some (.string (⟨#[]⟩ : ByteArray)) := (blk_cell BK379.out 1).trans rfl; have hfz9_0 := blk_frozen BK379.out 0; have hfz9_1 := blk_frozen BK379.out 1; have hcz10_0 : w4.cell? ⟨gb378, 0, none⟩ = some (.string (⟨#[]⟩ : ByteArray)) := (blk_cell BK378.out 0).trans rfl; have hcz10_1 : w4.cell? ⟨gb378, 1, none⟩ = some (.string (⟨#[]⟩ : ByteArray)) := (blk_cell BK378.out 1).trans rfl; have hfz10_0 := blk_frozen BK378.out 0; have hfz10_1 := blk_frozen BK378.out 1))
  refine bodyPost_ret (results_cell_row rfl _ _ gb378 38 #[.string a0_0, .string a0_1] (0, 0) _ rfl (by (with_reducible repeat (first | refine blk_drewN ?_ _ | refine blk_drew ?_ | refine blk_alloc ?_ _)); refine blk_put (cs := #[.string a0_0, .string (⟨#[]⟩ : ByteArray)]) ?_ 1 _ rfl; (with_reducible repeat (first | refine blk_drewN ?_ _ | refine blk_drew ?_ | refine blk_alloc ?_ _)); refine blk_put (cs := #[.string (⟨#[]⟩ : ByteArray), .string (⟨#[]⟩ : ByteArray)]) ?_ 0 _ rfl; (with_reducible repeat (first | refine blk_drewN ?_ _ | refine blk_drew ?_ | refine blk_alloc ?_ _)); refine blk_far ?_ NB378_379.out _; (with_reducible repeat (first | refine blk_drewN ?_ _ | refine blk_drew ?_ | refine blk_alloc ?_ _)); refine blk_far ?_ NB378_379.out _; (with_reducible repeat (first | refine blk_drewN ?_ _ | refine blk_drew ?_ | refine blk_alloc ?_ _)); exact BK378.out) Tryd.underlying38 rfl (by kernel_rfl)) rfl ?_
  exact ⟨by first | rfl | (simp [errW_none, errW_some] <;> rfl) | (simp [*, errW_none, errW_some] <;> rfl), by repeat (first | (with_reducible first | exact HB.out | apply below_alloc | apply pw_below_drewN | apply below_drew1 | refine below_set ?_ GE377.out | refine below_set ?_ GE378.out | refine below_set ?_ GE379.out) | exact HB.out)⟩
def laws_toTermS.l0 : Nat → List (S69) → List (S38) → Int → Option ((List (S38)))
  | 0, _, _, _ => none
  | k + 1, x0, x3, x4 => if x4 < (x0.length : Int) then (if 0 ≤ x4 then ((laws_toTerm.f ((rd_T69 x0 x4).f0) ((rd_T69 x0 x4).f1)).bind fun bt384 => (if x4 < (x3.length : Int) then (laws_toTermS.l0 k x0 (x3.set (x4 : Int).toNat (⟨bt384.1, bt384.2⟩ : S38)) (wrap64 (x4 + 1))) else (none))) else (none)) else (some x3)
def laws_toTermS.f (k : Nat) (l0 : List (S69)) : Option ((List (S38))) := if 0 ≤ (l0.length : Int) then (if ((l0.length : Int) : Int).toNat ≤ 8796093022208 then (laws_toTermS.l0 k l0 (List.replicate ((l0.length : Int) : Int).toNat z38) 0) else (none)) else (none)
set_option maxHeartbeats 8000000 in
set_option maxRecDepth 100000 in
theorem laws_toTermS.calls (k : Nat) (A0 : Option Addr) (c0 : Nat) (l0 : List (S69)) (r : List (S38)) (w : World) (hr0 : Kd.C k69 w A0 l0.length l0) (hc0 : l0.length ≤ c0) (h : laws_toTermS.f k l0 = some r) :
    Calls Tryd.prog 32 #[.slice A0 l0.length c0] w fun e w' => ∃ v0_ : Value, e = .returned (v0_) ∧ Kd.R k38 38 w' w.heap.size (fun _ => True) v0_ r ∧ Below w.heap.size w w' := by
  have hu69 := Tryd.underlying69
  have hu38 := Tryd.underlying38
  have HR0 := Aside0.mk hr0
  have HC0 := Aside0.mk hc0
  clear hr0 hc0
  have HB := Aside0.mk (Below.refl w.heap.size w)
  have H : (if 0 ≤ (l0.length : Int) then (if ((l0.length : Int) : Int).toNat ≤ 8796093022208 then (laws_toTermS.l0 k l0 (List.replicate ((l0.length : Int) : Int).toNat z38) 0) else (none)) else (none)) = some r := h
  clear h
  by_cases c2 : 0 ≤ (l0.length : Int)
  · rw [if_pos c2] at H
    have c2b0 := eq_true c2
    have c2b1 : decide (0 ≤ (l0.length : Int)) = true := decide_eq_true c2
    clear c2
    by_cases c3 : ((l0.length : Int) : Int).toNat ≤ 8796093022208
    · rw [if_pos c3] at H
      have c3b0 := eq_true c3
      have c3b1 : decide (((l0.length : Int) : Int).toNat ≤ 8796093022208) = true := decide_eq_true c3
      clear c3
      obtain ⟨y380, hy380⟩ : ∃ y_ : List (S38), y_ = (List.replicate ((l0.length : Int) : Int).toNat z38) := ⟨_, rfl⟩
      replace H : (laws_toTermS.l0 k l0 y380 0) = some r := by first | (rw [hy380]; with_reducible exact H) | (have H2_ := (Option.bind_some _ _).symm.trans H; rw [hy380]; with_reducible exact H2_) | (have H2_ := (Option.bind_some _ _).symm.trans H; with_reducible exact H2_) | with_reducible exact H | (rw [hy380]; exact H) | exact H
      have Ny380 := Aside0.mk hy380
      clear hy380
      have H' := Aside0.mk H
      clear H
      go_enter Tryd.func32, Tryd.ntmps32
      go_wp2_with (first | ((with_reducible refine gate_dst (N := 7) rfl ?_); refine Kd.R_make k38 _ 38 rfl (N := 7) rfl 36 _ _ rfl (l0.length : Int) rfl rfl Tryd.underlying36 (.agg #[(.string ⟨#[]⟩), (.string ⟨#[]⟩)]) 32 info38 rfl (by decide) (by omega) z38 (ok := fun _ => True) (okp := fun _ => True) (k38_mkM _ _ _ z38 ) (fun _ hk => hk) trivial (of_decide_eq_true (by first | (with_reducible assumption) | assumption)) (Nat.le_trans (Nat.mul_le_mul_right _ (of_decide_eq_true (by first | (with_reducible assumption) | assumption) : (l0.length : Int).toNat ≤ 8796093022208)) (by omega)) (Below.refl _ _) (Nat.le_refl _) ?_; intro v381 w4 ho5 hb hg_ hnew_; clear hg_ hnew_; (first | rw [← Ny380.out] at ho5 | (simp only [Int.reduceToNat] at ho5; rw [← Ny380.out] at ho5)); have n0_ := Aside0.mk (Kd.R_lower ho5 (below_size (by repeat (first | (with_reducible first | exact HB.out | apply below_alloc | apply pw_below_drewN | apply below_drew1) | exact HB.out)))); have n1_ := Aside0.mk (below_step (by repeat (first | (with_reducible first | exact HB.out | apply below_alloc | apply pw_below_drewN | apply below_drew1) | exact HB.out)) hb); clear HB; have HO382 := n0_; have HB := n1_; clear n0_ n1_; clear hb ho5))
      go_loopg [4] k (fun kq v4 w' => ∃ (x3_1 : List (S38)) (x4_1 : Int), v4 = .int .i64 x4_1 ∧ Aside0 (laws_toTermS.l0 kq l0 x3_1 x4_1 = some r) ∧ Aside0 (kq ≤ k) ∧ Aside0 (Kd.R k38 38 w' w.heap.size (fun _ => True) v381 x3_1) ∧ Aside0 (Below w.heap.size w w'))
      case atStart => exact ⟨(y380), (0), (by first | rfl | (simp; done) | (simp [*]; done)), H', ⟨Nat.le_refl _⟩, ⟨by (with_reducible repeat (first | apply Kd.R_alloc | apply Kd.R_drewN | apply Kd.R_drew)); exact HO382.out⟩, ⟨by repeat (first | (with_reducible first | exact HB.out | apply below_alloc | apply pw_below_drewN | apply below_drew1) | exact HB.out)⟩⟩
      case round =>
        clear H'
        try clear c2
        try clear c2b0
        try clear c2b1
        try clear p2
        try clear c3
        try clear c3b0
        try clear c3b1
        obtain ⟨x3_1, x4_1, rfl, HA, HK1, HO_3, HB⟩ := hrel
        cases gk with
        | zero => exact absurd HA.out (by simp [laws_toTermS.l0])
        | succ k1 =>
          have H := HA.out
          clear HA
          simp only [laws_toTermS.l0] at H
          by_cases c6 : x4_1 < (l0.length : Int)
          · rw [if_pos c6] at H
            have c6b0 : decide (x4_1 < (l0.length : Int)) = true := decide_eq_true c6
            clear c6
            by_cases c7 : 0 ≤ x4_1
            · rw [if_pos c7] at H
              have c7b0 : decide (0 ≤ x4_1) = true := decide_eq_true c7
              clear c7
              replace H := Option.bind_eq_some_iff.mp H
              obtain ⟨⟨t384, t385⟩, A80, H⟩ := H
              replace H : (if x4_1 < (x3_1.length : Int) then (laws_toTermS.l0 k1 l0 (x3_1.set (x4_1 : Int).toNat (⟨t384, t385⟩ : S38)) (wrap64 (x4_1 + 1))) else (none)) = some r := H
              have A8 := Aside0.mk A80
              clear A80
              by_cases c9 : x4_1 < (x3_1.length : Int)
              · rw [if_pos c9] at H
                have c9b0 : decide (x4_1 < (x3_1.length : Int)) = true := decide_eq_true c9
                clear c9
                obtain ⟨y386, hy386⟩ : ∃ y_ : List (S38), y_ = (x3_1.set (x4_1 : Int).toNat (⟨t384, t385⟩ : S38)) := ⟨_, rfl⟩
                replace H : (laws_toTermS.l0 k1 l0 y386 (wrap64 (x4_1 + 1))) = some r := by first | (rw [hy386]; with_reducible exact H) | (have H2_ := (Option.bind_some _ _).symm.trans H; rw [hy386]; with_reducible exact H2_) | (have H2_ := (Option.bind_some _ _).symm.trans H; with_reducible exact H2_) | with_reducible exact H | (rw [hy386]; exact H) | exact H
                have Ny386 := Aside0.mk hy386
                clear hy386
                have H' := Aside0.mk H
                clear H
                have p383 : 0 ≤ (x4_1 : Int) := of_decide_eq_true (by first | (with_reducible assumption) | assumption)
                have q383 : x4_1 < (l0.length : Int) := of_decide_eq_true (by first | (with_reducible assumption) | assumption)
                obtain ⟨ad383, e383, hx383_0, hx383_1⟩ := at_T69 HR0.out x4_1 p383 q383
                cases e383
                replace hx383_0 := (HB.out.cell (World.block_lt_of_cell? w _ hx383_0)).trans hx383_0
                replace hx383_1 := (HB.out.cell (World.block_lt_of_cell? w _ hx383_1)).trans hx383_1
                replace p383 := eq_true p383
                replace q383 := eq_true q383
                go_wp2_with (first | ((with_reducible refine gate_callee (f := 47) rfl ?_); refine goesL_ (some 20) rfl rfl Tryd.func47 (by kernel_rfl) rfl #[.agg #[.string ((rd_T69 l0 x4_1).f0), .string ((rd_T69 l0 x4_1).f1)]] rfl (by (try simp only [List.map_toArray, List.map_cons, List.map_nil]); first | done | rfl | (simp only [List.length_drop, List.length_take]; rfl)) ?_; (with_reducible refine (laws_toTerm.calls ((rd_T69 l0 x4_1).f0) ((rd_T69 l0 x4_1).f1) t384 t385 _ A8.out).mono ?_); rintro e w11 ⟨rfl, hb⟩; refine ⟨_, rfl, ?_⟩; have n0_ := Aside0.mk (Kd.R_below (by (with_reducible repeat (first | apply Kd.R_alloc | apply Kd.R_drewN | apply Kd.R_drew)); exact HO_3.out) hb); have n1_ := Aside0.mk (below_step (by repeat (first | (with_reducible first | exact HB.out | apply below_alloc | apply pw_below_drewN | apply below_drew1) | exact HB.out)) hb); clear HO_3; clear HB; have HO_3 := n0_; have HB := n1_; clear n0_ n1_; (try clear hb); (try clear hb2); (try clear hk); (try clear hi); have p10 : 0 ≤ (x4_1 : Int) := of_decide_eq_true (by first | (with_reducible assumption) | assumption); have q10 : (x4_1 : Int) < ((x3_1.length : Int) : Int) := of_decide_eq_true (by first | (with_reducible assumption) | assumption); obtain ⟨go10, co10, eo10, gb10, gl10, cl10, HG10⟩ := Kd.R_form HO_3.out (by omega); (first | cases eo10 | (injection eo10 with ea_ en_ ec_; (first | subst ea_ | (injection ea_ with ea_; subst ea_)); subst ec_; clear en_)); have GB10 := Aside0.mk gb10; have GG10 := Aside0.mk HG10; clear gb10 gl10 HG10; obtain ⟨ce10, hcl10, hM10, hcc10, hfr10⟩ := Kd.R_elem HO_3.out z38 (x4_1 : Int) p10 q10; obtain rfl := k38_openM hM10; have hx10_0 : w11.cell? ⟨go10, (x4_1 : Int).toNat * 2, none⟩ = some (.string ((rd_T38 x3_1 x4_1).f0)) := hcc10 0 _ rfl; have hx10_1 : w11.cell? ⟨go10, (x4_1 : Int).toNat * 2 + 1, none⟩ = some (.string ((rd_T38 x3_1 x4_1).f1)) := hcc10 1 _ rfl; have hf10_0 : w11.frozen? ⟨go10, (x4_1 : Int).toNat * 2, none⟩ = false := hfr10 0; have hf10_1 : w11.frozen? ⟨go10, (x4_1 : Int).toNat * 2 + 1, none⟩ = false := hfr10 1; clear hcl10 hcc10 hfr10; (try clear hM10); replace p10 := eq_true p10; replace q10 := eq_true q10; have HX12 := Aside0.mk (show Kd.R k38 38 w11 w.heap.size (fun _ => True) (.slice (some ⟨go10, 0, none⟩) x3_1.length co10) x3_1 from (by (with_reducible repeat (first | apply Kd.R_alloc | apply Kd.R_drewN | apply Kd.R_drew)); exact HO_3.out)); obtain ⟨ce12, hcl12, hM12, hcc12, hfr12⟩ := Kd.R_elem HX12.out z38 (x4_1 : Int) (of_decide_eq_true (by first | (with_reducible assumption) | assumption)) (by have h_ : (x4_1 : Int) < ((x3_1.length : Int) : Int) := of_decide_eq_true (by first | (with_reducible assumption) | assumption); first | exact h_ | (have e_ := (Kd.R_reads' HO_3.out).1; omega) | simpa using h_); obtain rfl := k38_openM hM12; have HP12 := Kd.R_seg HX12.out (x4_1 : Int) (of_decide_eq_true (by first | (with_reducible assumption) | assumption)) (by have h_ : (x4_1 : Int) < ((x3_1.length : Int) : Int) := of_decide_eq_true (by first | (with_reducible assumption) | assumption); first | exact h_ | (have e_ := (Kd.R_reads' HO_3.out).1; omega) | simpa using h_) (seg := [.string t384, .string t385]) (j := 0) hcl12 hcc12 (show 2 ≤ 2 from by decide) (x' := (⟨t384, t385⟩ : S38)) (k38_mkM _ _ _ (⟨t384, t385⟩ : S38) ) (fun _ hk => hk); have hx12_0 := hcc12 0 _ rfl; (try simp only [show (k38).sz = 2 from rfl, Nat.mul_one, Nat.add_zero] at hx12_0); have hf12_0 := hfr12 0; (try simp only [show (k38).sz = 2 from rfl, Nat.mul_one, Nat.add_zero] at hf12_0); have hx12_1 := hcc12 1 _ rfl; (try simp only [show (k38).sz = 2 from rfl, Nat.mul_one, Nat.add_zero] at hx12_1); have hf12_1 := hfr12 1; (try simp only [show (k38).sz = 2 from rfl, Nat.mul_one, Nat.add_zero] at hf12_1); clear hcl12 hcc12 hfr12; (try clear hM12)) | ((with_reducible refine gate_store (t := 38) (p := 21) rfl ?_); refine store_event (t := 38) (p := 21) (v := ?vo_w13) (w1 := ((w11.setCell ⟨go10, (x4_1 : Int).toNat * 2, none⟩ (.string t384)).setCell ⟨go10, (x4_1 : Int).toNat * 2 + 1, none⟩ (.string t385))) ?hg ?ho ?hn ?hr ?_; (case ho => rfl); (case hg => rfl); (case hn => rfl); (case hr => first | (go_simp; done) | (go_simp; rfl)); intro w13 hw; have hg : w11.grownBy w13 (some go10) := (by rw [hw]; exact HP12.2); have hp_ : Kd.R k38 38 w13 w.heap.size (fun _ => True) (.slice (some ⟨go10, 0, none⟩) x3_1.length co10) y386 := (by rw [hw, Ny386.out]; exact HP12.1); clear HP12; have n0_ := Aside0.mk (hp_); have n1_ := Aside0.mk ((by rw [hw]; exact below_set (below_set (HB.out) GB10.out) GB10.out : Below w.heap.size w w13)); clear HO_3; clear HB; have HO_3 := n0_; have HB := n1_; clear n0_ n1_; clear hg hw hp_))
                go_roundg k1
                case measure => have := HK1.out; omega
                case rel => exact ⟨(y386), (wrap64 (x4_1 + 1)), (by first | rfl | (simp; done) | (simp [*]; done)), H', ⟨by have := HK1.out; omega⟩, ⟨by (with_reducible repeat (first | apply Kd.R_alloc | apply Kd.R_drewN | apply Kd.R_drew)); exact HO_3.out⟩, ⟨by repeat (first | (with_reducible first | exact HB.out | apply below_alloc | apply pw_below_drewN | apply below_drew1) | exact HB.out)⟩⟩
              · rw [if_neg c9] at H
                exact absurd H (by simp)
            · rw [if_neg c7] at H
              exact absurd H (by simp)
          · rw [if_neg c6] at H
            have c6b0 : decide (x4_1 < (l0.length : Int)) = false := decide_eq_false c6
            clear c6
            obtain rfl := Option.some.inj H
            go_wp2
            go_ret
            exact ⟨_, by first | rfl | (simp [errW_none, errW_some] <;> rfl) | (simp [*, errW_none, errW_some] <;> rfl), by (with_reducible repeat (first | apply Kd.R_alloc | apply Kd.R_drewN | apply Kd.R_drew)); exact HO_3.out, by repeat (first | (with_reducible first | exact HB.out | apply below_alloc | apply pw_below_drewN | apply below_drew1) | exact HB.out)⟩
    · rw [if_neg c3] at H
      exact absurd H (by simp)
  · rw [if_neg c2] at H
    exact absurd H (by simp)
def laws_toTermSS.l0 : Nat → List (List (S69)) → List (List (S38)) → Int → Option ((List (List (S38))))
  | 0, _, _, _ => none
  | k + 1, x0, x3, x4 => if x4 < (x0.length : Int) then (if 0 ≤ x4 then ((laws_toTermS.f k (rd_L10 x0 x4)).bind fun t391 => (if x4 < (x3.length : Int) then (laws_toTermSS.l0 k x0 (x3.set (x4 : Int).toNat t391) (wrap64 (x4 + 1))) else (none))) else (none)) else (some x3)
def laws_toTermSS.f (k : Nat) (l0 : List (List (S69))) : Option ((List (List (S38)))) := if 0 ≤ (l0.length : Int) then (if ((l0.length : Int) : Int).toNat ≤ 11728124029610 then (laws_toTermSS.l0 k l0 (List.replicate ((l0.length : Int) : Int).toNat []) 0) else (none)) else (none)
set_option maxHeartbeats 8000000 in
set_option maxRecDepth 100000 in
theorem laws_toTermSS.calls (k : Nat) (A0 : Option Addr) (c0 : Nat) (l0 : List (List (S69))) (r : List (List (S38))) (w : World) (hr0 : Kd.C (Kd.slice 69 k69) w A0 l0.length l0) (hc0 : l0.length ≤ c0) (h : laws_toTermSS.f k l0 = some r) :
    Calls Tryd.prog 15 #[.slice A0 l0.length c0] w fun e w' => ∃ v0_ : Value, e = .returned (v0_) ∧ Kd.S (Kd.slice 38 k38) 36 w' w.heap.size (fun _ => True) v0_ r ∧ Below w.heap.size w w' := by
  have HR0 := Aside0.mk hr0
  have HC0 := Aside0.mk hc0
  clear hr0 hc0
  have HB := Aside0.mk (Below.refl w.heap.size w)
  have H : (if 0 ≤ (l0.length : Int) then (if ((l0.length : Int) : Int).toNat ≤ 11728124029610 then (laws_toTermSS.l0 k l0 (List.replicate ((l0.length : Int) : Int).toNat []) 0) else (none)) else (none)) = some r := h
  clear h
  by_cases c2 : 0 ≤ (l0.length : Int)
  · rw [if_pos c2] at H
    have c2b0 := eq_true c2
    have c2b1 : decide (0 ≤ (l0.length : Int)) = true := decide_eq_true c2
    clear c2
    by_cases c3 : ((l0.length : Int) : Int).toNat ≤ 11728124029610
    · rw [if_pos c3] at H
      have c3b0 := eq_true c3
      have c3b1 : decide (((l0.length : Int) : Int).toNat ≤ 11728124029610) = true := decide_eq_true c3
      clear c3
      obtain ⟨y387, hy387⟩ : ∃ y_ : List (List (S38)), y_ = (List.replicate ((l0.length : Int) : Int).toNat []) := ⟨_, rfl⟩
      replace H : (laws_toTermSS.l0 k l0 y387 0) = some r := by first | (rw [hy387]; with_reducible exact H) | (have H2_ := (Option.bind_some _ _).symm.trans H; rw [hy387]; with_reducible exact H2_) | (have H2_ := (Option.bind_some _ _).symm.trans H; with_reducible exact H2_) | with_reducible exact H | (rw [hy387]; exact H) | exact H
      have Ny387 := Aside0.mk hy387
      clear hy387
      have H' := Aside0.mk H
      clear H
      go_enter Tryd.func15, Tryd.ntmps15
      go_wp2_with (first | ((with_reducible refine gate_dst (N := 7) rfl ?_); refine Kd.S_make (Kd.slice 38 k38) _ 36 rfl (N := 7) rfl 22 _ _ rfl (l0.length : Int) rfl rfl Tryd.underlying22 (.slice none 0 0) 24 info36 rfl (by decide) (by omega) [] (ok := fun _ => True) (okp := fun _ => True) ⟨_, rfl, Kd.R_nil _ _ _ _ _⟩ (fun _ hk => hk) trivial (of_decide_eq_true (by first | (with_reducible assumption) | assumption)) (Nat.le_trans (Nat.mul_le_mul_right _ (of_decide_eq_true (by first | (with_reducible assumption) | assumption) : (l0.length : Int).toNat ≤ 11728124029610)) (by omega)) (Below.refl _ _) (Nat.le_refl _) ?_; intro v388 w4 ho5 hb hg_ hnew_; clear hg_ hnew_; (first | rw [← Ny387.out] at ho5 | (simp only [Int.reduceToNat] at ho5; rw [← Ny387.out] at ho5)); have n0_ := Aside0.mk (Kd.S_lower ho5 (below_size (by repeat (first | (with_reducible first | exact HB.out | apply below_alloc | apply pw_below_drewN | apply below_drew1) | exact HB.out)))); have n1_ := Aside0.mk (below_step (by repeat (first | (with_reducible first | exact HB.out | apply below_alloc | apply pw_below_drewN | apply below_drew1) | exact HB.out)) hb); clear HB; have HO389 := n0_; have HB := n1_; clear n0_ n1_; clear hb ho5))
      go_loopg [4] k (fun kq v4 w' => ∃ (x3_1 : List (List (S38))) (x4_1 : Int), v4 = .int .i64 x4_1 ∧ Aside0 (laws_toTermSS.l0 kq l0 x3_1 x4_1 = some r) ∧ Aside0 (kq ≤ k) ∧ Aside0 (Kd.S (Kd.slice 38 k38) 36 w' w.heap.size (fun _ => True) v388 x3_1) ∧ Aside0 (Below w.heap.size w w'))
      case atStart => exact ⟨(y387), (0), (by first | rfl | (simp; done) | (simp [*]; done)), H', ⟨Nat.le_refl _⟩, ⟨by (with_reducible repeat (first | apply Kd.S_alloc | apply Kd.S_drewN | apply Kd.S_drew)); exact HO389.out⟩, ⟨by repeat (first | (with_reducible first | exact HB.out | apply below_alloc | apply pw_below_drewN | apply below_drew1) | exact HB.out)⟩⟩
      case round =>
        clear H'
        try clear c1
        try clear c2
        try clear c2b0
        try clear c2b1
        try clear p2
        try clear c3
        try clear c3b0
        try clear c3b1
        obtain ⟨x3_1, x4_1, rfl, HA, HK1, HO_3, HB⟩ := hrel
        cases gk with
        | zero => exact absurd HA.out (by simp [laws_toTermSS.l0])
        | succ k1 =>
          have H := HA.out
          clear HA
          simp only [laws_toTermSS.l0] at H
          by_cases c6 : x4_1 < (l0.length : Int)
          · rw [if_pos c6] at H
            have c6b0 : decide (x4_1 < (l0.length : Int)) = true := decide_eq_true c6
            clear c6
            by_cases c7 : 0 ≤ x4_1
            · rw [if_pos c7] at H
              have c7b0 : decide (0 ≤ x4_1) = true := decide_eq_true c7
              clear c7
              replace H := Option.bind_eq_some_iff.mp H
              obtain ⟨t391, A80, H⟩ := H
              replace H : (if x4_1 < (x3_1.length : Int) then (laws_toTermSS.l0 k1 l0 (x3_1.set (x4_1 : Int).toNat t391) (wrap64 (x4_1 + 1))) else (none)) = some r := H
              have A8 := Aside0.mk A80
              clear A80
              by_cases c9 : x4_1 < (x3_1.length : Int)
              · rw [if_pos c9] at H
                have c9b0 : decide (x4_1 < (x3_1.length : Int)) = true := decide_eq_true c9
                clear c9
                obtain ⟨y394, hy394⟩ : ∃ y_ : List (List (S38)), y_ = (x3_1.set (x4_1 : Int).toNat t391) := ⟨_, rfl⟩
                replace H : (laws_toTermSS.l0 k1 l0 y394 (wrap64 (x4_1 + 1))) = some r := by first | (rw [hy394]; with_reducible exact H) | (have H2_ := (Option.bind_some _ _).symm.trans H; rw [hy394]; with_reducible exact H2_) | (have H2_ := (Option.bind_some _ _).symm.trans H; with_reducible exact H2_) | with_reducible exact H | (rw [hy394]; exact H) | exact H
                have Ny394 := Aside0.mk hy394
                clear hy394
                have H' := Aside0.mk H
                clear H
                have p390 : 0 ≤ (x4_1 : Int) := of_decide_eq_true (by first | (with_reducible assumption) | assumption)
                have q390 : x4_1 < (l0.length : Int) := of_decide_eq_true (by first | (with_reducible assumption) | assumption)
                obtain ⟨ad390, A390_0, c390_0, e390, hx390_0, hl390_0, hi390_0⟩ := at_L10 HR0.out x4_1 p390 q390
                cases e390
                replace hx390_0 := (HB.out.cell (World.block_lt_of_cell? w _ hx390_0)).trans hx390_0
                have HR390_0 := Aside0.mk hi390_0
                have HC390_0 := Aside0.mk hl390_0
                clear hi390_0 hl390_0
                replace p390 := eq_true p390
                replace q390 := eq_true q390
                go_wp2_with (first | ((with_reducible refine gate_callee (f := 32) rfl ?_); refine goesL_ (some 20) rfl rfl Tryd.func32 (by kernel_rfl) rfl #[.slice A390_0 (rd_L10 l0 x4_1).length c390_0] rfl (by (try simp only [List.map_toArray, List.map_cons, List.map_nil]); first | done | rfl | (simp only [List.length_drop, List.length_take]; rfl)) ?_; (with_reducible refine (laws_toTermS.calls k1 _ _ (rd_L10 l0 x4_1) t391 _ ?side1 ?side2 A8.out).mono ?_); (case side1 => repeat (first | exact (Kd.C_below HR390_0.out HB.out) | (with_reducible refine Kd.C_alloc ?_ _) | (with_reducible refine Kd.C_drewN ?_ _) | (with_reducible refine Kd.C_drew ?_))); (case side2 => exact HC390_0.out); rintro e w11 ⟨v392, rfl, ho0, hb⟩; refine ⟨_, rfl, ?_⟩; have n0_ := Aside0.mk (Kd.S_elder' (by (with_reducible repeat (first | apply Kd.S_alloc | apply Kd.S_drewN | apply Kd.S_drew)); exact HO_3.out) (Kd.R_base ho0) hb); have n1_ := Aside0.mk (Kd.R_lower ho0 (below_size (by repeat (first | (with_reducible first | exact HB.out | apply below_alloc | apply pw_below_drewN | apply below_drew1) | exact HB.out)))); have n2_ := Aside0.mk (below_step (by repeat (first | (with_reducible first | exact HB.out | apply below_alloc | apply pw_below_drewN | apply below_drew1) | exact HB.out)) hb); clear HO_3; clear HB; have HO_3 := n0_; have HO393 := n1_; have HB := n2_; clear n0_ n1_ n2_; (try clear hb); (try clear hb2); (try clear hk); (try clear hi); (try clear ho0); have p10 : 0 ≤ (x4_1 : Int) := of_decide_eq_true (by first | (with_reducible assumption) | assumption); have q10 : (x4_1 : Int) < ((x3_1.length : Int) : Int) := of_decide_eq_true (by first | (with_reducible assumption) | assumption); obtain ⟨go10, co10, eo10, gb10, gl10, cl10, HG10⟩ := Kd.S_form HO_3.out (by omega); (first | cases eo10 | (injection eo10 with ea_ en_ ec_; (first | subst ea_ | (injection ea_ with ea_; subst ea_)); subst ec_; clear en_)); have GB10 := Aside0.mk gb10; have GG10 := Aside0.mk HG10; clear gb10 gl10 HG10; obtain ⟨_, ce10, hcl10, hM10, hcc10, hfr10, _, _⟩ := Kd.S_elem HO_3.out [] (x4_1 : Int) p10 q10; obtain ⟨ve10_0, rfl, ge10_0⟩ := hM10; have hx10_0 := hcc10 0 _ rfl; have hf10_0 := hfr10 0; (try simp only [show ((Kd.slice 38 k38)).sz = 1 from rfl, Nat.mul_one, Nat.add_zero] at hx10_0); (try simp only [show ((Kd.slice 38 k38)).sz = 1 from rfl, Nat.mul_one, Nat.add_zero] at hf10_0); clear hcl10 hcc10 hfr10; (try clear hM10); replace p10 := eq_true p10; replace q10 := eq_true q10; have n_ := Aside0.mk (Kd.S_mono (ok' := (fun k_ => some k_ ≠ (v392 : Value).ownBlock)) HO_3.out (fun k_ hk => hk.2)); clear HO_3; have HO_3 := n_; clear n_; have HX12 := Aside0.mk (show Kd.S (Kd.slice 38 k38) 36 w11 w.heap.size (fun k_ => ((fun _ => True)) k_ ∧ ¬ ((fun k_ => some k_ = (v392 : Value).ownBlock)) k_) (.slice (some ⟨go10, 0, none⟩) x3_1.length co10) x3_1 from (by (with_reducible repeat (first | apply Kd.S_alloc | apply Kd.S_drewN | apply Kd.S_drew)); exact Kd.S_mono HO_3.out (fun k_ hk => ⟨trivial, fun e_ => hk e_⟩))); obtain ⟨oki12, ce12, hcl12, hM12, hcc12, hfr12, hoki12, hH12⟩ := Kd.S_elem HX12.out [] (x4_1 : Int) (of_decide_eq_true (by first | (with_reducible assumption) | assumption)) (by have h_ : (x4_1 : Int) < ((x3_1.length : Int) : Int) := of_decide_eq_true (by first | (with_reducible assumption) | assumption); first | exact h_ | (have e_ := (Kd.S_reads' HO_3.out).1; omega) | simpa using h_); obtain ⟨ve12_0, rfl, ge12_0⟩ := hM12; have HP12 := Kd.S_seg hH12 (of_decide_eq_true (by first | (with_reducible assumption) | assumption)) (by have h_ : (x4_1 : Int) < ((x3_1.length : Int) : Int) := of_decide_eq_true (by first | (with_reducible assumption) | assumption); first | exact h_ | (have e_ := (Kd.S_reads' HO_3.out).1; omega) | simpa using h_) (seg := [v392]) (j := 0) (show 1 ≤ 1 from by decide) (x' := t391) (Kd.M_row (Kd.R_mono (Kd.R_tight rfl (Kd.R_mono (ok' := fun k_ => ((fun _ => True)) k_ ∧ k_ ≠ go10) (Kd.R_apart' (HO393.out) (Kd.S_typed HO_3.out) (by decide)) (fun k_ hk => ⟨trivial, fun e_ => (hk.2) (by rw [e_]; rfl)⟩))) (fun _ h_ => Or.inr (h_)))) (fun _ hk => hk) (fun k_ hk_ => ((Kd.R_mono (ok' := fun k_ => ((fun _ => True)) k_ ∧ k_ ≠ go10) (Kd.R_apart' (HO393.out) (Kd.S_typed HO_3.out) (by decide)) (fun k_ hk => ⟨trivial, fun e_ => (hk.2) (by rw [e_]; rfl)⟩))).1 k_ hk_.symm); have hx12_0 := hcc12 0 _ rfl; (try simp only [show ((Kd.slice 38 k38)).sz = 1 from rfl, Nat.mul_one, Nat.add_zero] at hx12_0); have hf12_0 := hfr12 0; (try simp only [show ((Kd.slice 38 k38)).sz = 1 from rfl, Nat.mul_one, Nat.add_zero] at hf12_0); clear hcl12 hcc12 hfr12 hoki12 hH12; (try clear hM12); (try simp only [show ((Kd.slice 38 k38)).sz = 1 from rfl, Nat.mul_one, Nat.add_zero] at HP12)) | ((with_reducible refine gate_store (t := 36) (p := 21) rfl ?_); refine store_event (t := 36) (p := 21) (v := ?vo_w13) (w1 := (w11.setCell ⟨go10, (x4_1 : Int).toNat, none⟩ (v392))) ?hg ?ho ?hn ?hr ?_; (case ho => rfl); (case hg => rfl); (case hn => rfl); (case hr => first | (go_simp; done) | (go_simp; rfl) | (obtain ⟨As_, cs_, es_⟩ := Kd.R_slice HO393.out; (cases es_); first | (go_simp; done) | (go_simp; rfl))); intro w13 hw; have hg : w11.grownBy w13 (some go10) := (by rw [hw]; exact HP12.2); have hp_ : Kd.S (Kd.slice 38 k38) 36 w13 w.heap.size (fun _ => True) (.slice (some ⟨go10, 0, none⟩) x3_1.length co10) y394 := (by rw [hw, Ny394.out]; exact HP12.1); clear HP12; have n0_ := Aside0.mk (hp_); have n1_ := Aside0.mk ((by rw [hw]; exact below_set (HB.out) GB10.out : Below w.heap.size w w13)); clear HO_3; clear HB; clear HO393; have HO_3 := n0_; have HB := n1_; clear n0_ n1_; clear hg hw hp_))
                go_roundg k1
                case measure => have := HK1.out; omega
                case rel => exact ⟨(y394), (wrap64 (x4_1 + 1)), (by first | rfl | (simp; done) | (simp [*]; done)), H', ⟨by have := HK1.out; omega⟩, ⟨by (with_reducible repeat (first | apply Kd.S_alloc | apply Kd.S_drewN | apply Kd.S_drew)); exact HO_3.out⟩, ⟨by repeat (first | (with_reducible first | exact HB.out | apply below_alloc | apply pw_below_drewN | apply below_drew1) | exact HB.out)⟩⟩
              · rw [if_neg c9] at H
                exact absurd H (by simp)
            · rw [if_neg c7] at H
              exact absurd H (by simp)
          · rw [if_neg c6] at H
            have c6b0 : decide (x4_1 < (l0.length : Int)) = false := decide_eq_false c6
            (try (have c6b0' := c6b0; simp only [hl390_0] at c6b0'))
            clear c6
            obtain rfl := Option.some.inj H
            go_wp2
            go_ret
            exact ⟨_, by first | rfl | (simp [errW_none, errW_some] <;> rfl) | (simp [*, errW_none, errW_some] <;> rfl), by (with_reducible repeat (first | apply Kd.S_alloc | apply Kd.S_drewN | apply Kd.S_drew)); exact HO_3.out, by repeat (first | (with_reducible first | exact HB.out | apply below_alloc | apply pw_below_drewN | apply below_drew1) | exact HB.out)⟩
    · rw [if_neg c3] at H
      exact absurd H (by simp)
  · rw [if_neg c2] at H
    exact absurd H (by simp)
def slices_Index_string_string.l0 : Nat → List ByteArray → ByteArray → Int → Int → Option (Int)
  | 0, _, _, _, _ => none
  | k + 1, x0, x1, x7, x8 => if x8 < x7 then (if 0 ≤ x8 then (if x8 < (x0.length : Int) then (if x1.toList = (rdOf ByteArray.empty x0 x8).toList then (some x8) else (slices_Index_string_string.l0 k x0 x1 x7 (wrap64 (x8 + 1)))) else (none)) else (none)) else (some (-1))
def slices_Index_string_string.f (k : Nat) (l0 : List ByteArray) (a1 : ByteArray) : Option (Int) := slices_Index_string_string.l0 k l0 a1 (l0.length : Int) 0
set_option maxHeartbeats 8000000 in
set_option maxRecDepth 100000 in
theorem slices_Index_string_string.calls (k : Nat) (A0 : Option Addr) (c0 : Nat) (l0 : List ByteArray) (a1 : ByteArray) (r : Int) (w : World) (hr0 : Kd.C Kd.string w A0 l0.length l0) (hc0 : l0.length ≤ c0) (h : slices_Index_string_string.f k l0 a1 = some r) :
    Calls Tryd.prog 48 #[.slice A0 l0.length c0, .string a1] w fun e w' => e = .returned (.int .i64 r) ∧ Drawn0 w w' := by
  have HR0 := Aside0.mk hr0
  have HC0 := Aside0.mk hc0
  clear hr0 hc0
  have H : (slices_Index_string_string.l0 k l0 a1 (l0.length : Int) 0) = some r := h
  clear h
  have H' := Aside0.mk H
  clear H
  go_enter Tryd.func48, Tryd.ntmps48
  go_wp2
  go_loopg [8] k (fun kq v8 w' => ∃ (x8_1 : Int), v8 = .int .i64 x8_1 ∧ Aside0 (slices_Index_string_string.l0 kq l0 a1 (l0.length : Int) x8_1 = some r) ∧ Aside0 (kq ≤ k) ∧ Drawn0 w w')
  case atStart => exact ⟨(0), (by first | rfl | (simp; done) | (simp [*]; done)), H', ⟨Nat.le_refl _⟩, by repeat (first | exact Drawn0.refl _ | apply Drawn0.step)⟩
  case round =>
    clear H'
    try clear p2
    obtain ⟨x8_1, rfl, HA, HK1, ⟨m1, rfl⟩⟩ := hrel
    cases gk with
    | zero => exact absurd HA.out (by simp [slices_Index_string_string.l0])
    | succ k1 =>
      have H := HA.out
      clear HA
      simp only [slices_Index_string_string.l0] at H
      by_cases c3 : x8_1 < (l0.length : Int)
      · rw [if_pos c3] at H
        have c3b0 : decide (x8_1 < (l0.length : Int)) = true := decide_eq_true c3
        clear c3
        by_cases c4 : 0 ≤ x8_1
        · rw [if_pos c4] at H
          have c4b0 : decide (0 ≤ x8_1) = true := decide_eq_true c4
          clear c4
          by_cases c5 : x8_1 < (l0.length : Int)
          · rw [if_pos c5] at H
            have c5b0 : decide (x8_1 < (l0.length : Int)) = true := decide_eq_true c5
            clear c5
            by_cases c6 : a1.toList = (rdOf ByteArray.empty l0 x8_1).toList
            · rw [if_pos c6] at H
              have c6b0 : (a1.toList == (rdOf ByteArray.empty l0 x8_1).toList) = true := beq_iff_eq.mpr c6
              have c6b1 : (a1.toList != (rdOf ByteArray.empty l0 x8_1).toList) = false := bne_eq_false_iff_eq.mpr c6
              clear c6
              obtain rfl := Option.some.inj H
              have p395 : 0 ≤ (x8_1 : Int) := of_decide_eq_true (by first | (with_reducible assumption) | assumption)
              have q395 : x8_1 < (l0.length : Int) := of_decide_eq_true (by first | (with_reducible assumption) | assumption)
              obtain ⟨ad395, e395, hx395_0⟩ := Kd.at_string HR0.out x8_1 p395 q395
              cases e395
              replace p395 := eq_true p395
              replace q395 := eq_true q395
              go_wp2
              go_ret
              exact ⟨by first | rfl | (simp; done) | (simp [*]; done), by repeat (first | exact Drawn0.refl _ | apply Drawn0.step)⟩
            · rw [if_neg c6] at H
              have c6b0 : (a1.toList == (rdOf ByteArray.empty l0 x8_1).toList) = false := beq_eq_false_iff_ne.mpr c6
              have c6b1 : (a1.toList != (rdOf ByteArray.empty l0 x8_1).toList) = true := bne_iff_ne.mpr c6
              have H' := Aside0.mk H
              clear H
              have p395 : 0 ≤ (x8_1 : Int) := of_decide_eq_true (by first | (with_reducible assumption) | assumption)
              have q395 : x8_1 < (l0.length : Int) := of_decide_eq_true (by first | (with_reducible assumption) | assumption)
              obtain ⟨ad395, e395, hx395_0⟩ := Kd.at_string HR0.out x8_1 p395 q395
              cases e395
              replace p395 := eq_true p395
              replace q395 := eq_true q395
              go_wp2
              go_roundg k1
              case measure => have := HK1.out; omega
              case rel => exact ⟨(wrap64 (x8_1 + 1)), (by first | rfl | (simp; done) | (simp [*]; done)), H', ⟨by have := HK1.out; omega⟩, by repeat (first | exact Drawn0.refl _ | apply Drawn0.step)⟩
          · rw [if_neg c5] at H
            exact absurd H (by simp)
        · rw [if_neg c4] at H
          exact absurd H (by simp)
      · rw [if_neg c3] at H
        have c3b0 : decide (x8_1 < (l0.length : Int)) = false := decide_eq_false c3
        clear c3
        obtain rfl := Option.some.inj H
        go_wp2
        go_ret
        exact ⟨by first | rfl | (simp; done) | (simp [*]; done), by repeat (first | exact Drawn0.refl _ | apply Drawn0.step)⟩
def slices_Contains_string_string.f (k : Nat) (l0 : List ByteArray) (a1 : ByteArray) : Option (Bool) := (slices_Index_string_string.f k l0 a1).bind fun t396 => (some (decide (t396 ≥ 0)))
set_option maxHeartbeats 8000000 in
set_option maxRecDepth 100000 in
theorem slices_Contains_string_string.calls (k : Nat) (A0 : Option Addr) (c0 : Nat) (l0 : List ByteArray) (a1 : ByteArray) (r : Bool) (w : World) (hr0 : Kd.C Kd.string w A0 l0.length l0) (hc0 : l0.length ≤ c0) (h : slices_Contains_string_string.f k l0 a1 = some r) :
    Calls Tryd.prog 33 #[.slice A0 l0.length c0, .string a1] w fun e w' => e = .returned (.bool r) ∧ Drawn0 w w' := by
  have HR0 := Aside0.mk hr0
  have HC0 := Aside0.mk hc0
  clear hr0 hc0
  have H : ((slices_Index_string_string.f k l0 a1).bind fun t396 => (some (decide (t396 ≥ 0)))) = some r := h
  clear h
  replace H := Option.bind_eq_some_iff.mp H
  obtain ⟨t396, A30, H⟩ := H
  replace H : (some (decide (t396 ≥ 0))) = some r := H
  have A3 := Aside0.mk A30
  clear A30
  obtain rfl := Option.some.inj H
  go_enter Tryd.func33, Tryd.ntmps33
  go_wp2_with (first | ((with_reducible refine gate_callee (f := 48) rfl ?_); refine goesL_ (some 7) rfl rfl Tryd.func48 (by kernel_rfl) rfl #[.slice A0 l0.length c0, .string a1] rfl (by (try simp only [List.map_toArray, List.map_cons, List.map_nil]); first | done | rfl | (simp only [List.length_drop, List.length_take]; rfl)) ?_; (with_reducible refine (slices_Index_string_string.calls k _ _ l0 a1 t396 _ ?side1 ?side2 A3.out).mono ?_); (case side1 => repeat (first | exact HR0.out | (with_reducible refine Kd.C_alloc ?_ _) | (with_reducible refine Kd.C_drewN ?_ _) | (with_reducible refine Kd.C_drew ?_))); (case side2 => exact HC0.out); rintro e w' ⟨rfl, ⟨nd, rfl⟩⟩; refine ⟨_, rfl, ?_⟩))
  go_ret
  exact ⟨by first | rfl | (simp; done) | (simp [*]; done), by repeat (first | exact Drawn0.refl _ | apply Drawn0.step)⟩
def strings_Join.f (l0 : List ByteArray) (a1 : ByteArray) : Option ByteArray := if l0.length ≤ 140737488355328 ∧ (Lib.join (l0.map (·.data.toList)) a1.data.toList).length ≤ 140737488355328 then some ⟨(Lib.join (l0.map (·.data.toList)) a1.data.toList).toArray⟩ else none
theorem strings_Join.calls (A0 : Option Addr) (c0 : Nat) (l0 : List ByteArray) (a1 : ByteArray) (r : ByteArray) (w : World) (hr0 : Kd.C Kd.string w A0 l0.length l0) (hc0 : l0.length ≤ c0) (h : strings_Join.f l0 a1 = some r) :
    Calls Tryd.prog 34 #[.slice A0 l0.length c0, .string a1] w fun e w' => e = .returned (.string r) ∧ Below w.heap.size w w' := by
  unfold strings_Join.f at h
  split at h
  · rename_i hs
    obtain rfl := Option.some.inj h
    rcases Nat.eq_zero_or_pos l0.length with h0 | h0
    · obtain rfl := List.length_eq_zero_iff.1 h0
      exact (Tryd.strings_Join_none A0 c0 a1 w).mono fun e w' ⟨he, hw⟩ => ⟨he, hw ▸ Below.refl _ _⟩
    · obtain ⟨⟨bk, o, sp⟩, rfl, hcell⟩ := hr0.2.2 h0
      have hc : ∀ (j : Nat) x, l0[j]? = some x → w.cell? ((⟨bk, o, sp⟩ : Addr).add j) = some (.string x) := fun j x hj => by
        obtain ⟨c, hcl, hk, hcc⟩ := hcell j x hj
        obtain rfl : c = [.string x] := hk
        have := hcc 0 _ rfl
        simpa [Kd.string, Kd.scalar] using this
      have h1 := hc 0 l0[0] (List.getElem?_eq_getElem h0)
      have hsp : sp = none := by
        simp only [Addr.add, if_true] at h1
        unfold World.cell? at h1
        cases sp with
        | none => rfl
        | some q =>
          simp only [Option.isSome_some, if_true] at h1
          split at h1 <;> cases h1
      subst hsp
      refine Tryd.strings_Join bk o c0 l0 a1 w (fun j x hj => ?_) (World.block_lt_of_cell? w _ h1) hs.1 hc0 hs.2
      have := hc j x hj
      rwa [Addr.add_lit] at this
  · cases h
end Go.Proofs.YthfohhpjanoimaaDoor.P
end
