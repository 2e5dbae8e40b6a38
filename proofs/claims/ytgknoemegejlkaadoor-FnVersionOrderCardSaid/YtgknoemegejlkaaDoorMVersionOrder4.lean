/- Texts of VersionOrder, put together by program. -/
import Derived.Test.YtgknoemegejlkaaDoorMVersionOrder3

section
namespace Go.Proofs.YtgknoemegejlkaaDoor.P
open Go.RowKit Go.Proofs.YtgknoemegejlkaaDoorW.PrintWords Go.Proofs.YtgknoemegejlkaaDoorW.PrintLast Go.Proofs.YtgknoemegejlkaaDoorW.PrintMore Go.Proofs.YtgknoemegejlkaaDoorM
attribute [local go_sem] max2_int min2_int max_two min_two max_three min_three max_four min_four   -- for this text's walks alone
set_option linter.unusedVariables false
set_option linter.unusedSimpArgs false
mutual
def impl_CompareVersions.j0 : Nat → List (S66) → List (S66) → Bool → Option (Int)
  | 0, _, _, _ => none
  | k + 1, x5, x7, x28 => if x28 = true then (some 2) else (impl_CompareVersions.l0 k x5 x7 0)
def impl_CompareVersions.l0 : Nat → List (S66) → List (S66) → Int → Option (Int)
  | 0, _, _, _ => none
  | k + 1, x5, x7, x9 => if x9 < (x5.length : Int) then (impl_CompareVersions.j2 k x5 x7 x9 true) else (impl_CompareVersions.j2 k x5 x7 x9 (decide (x9 < (x7.length : Int))))
def impl_CompareVersions.j2 : Nat → List (S66) → List (S66) → Int → Bool → Option (Int)
  | 0, _, _, _, _ => none
  | k + 1, x5, x7, x9, x38 => if x38 = true then ((impl_rank.f x5 x9).bind fun t216 => ((impl_rank.f x7 x9).bind fun t217 => (if (wrap64 (t216 - t217)) = 0 then (impl_CompareVersions.j3 k x5 x7 x9 t216 (wrap64 (t216 - t217)) (t216 == 0)) else (impl_CompareVersions.j3 k x5 x7 x9 t216 (wrap64 (t216 - t217)) false)))) else (some 0)
def impl_CompareVersions.j3 : Nat → List (S66) → List (S66) → Int → Int → Int → Bool → Option (Int)
  | 0, _, _, _, _, _, _ => none
  | k + 1, x5, x7, x9, x10, x12, x55 => if x55 = true then (if 0 ≤ x9 then (if x9 < (x5.length : Int) then (if x9 < (x7.length : Int) then ((strings_Compare.f ((rd_T66 x5 x9).f1) ((rd_T66 x7 x9).f1)).bind fun t220 => (impl_CompareVersions.j4 k x5 x7 x9 x10 t220)) else (none)) else (none)) else (none)) else (impl_CompareVersions.j4 k x5 x7 x9 x10 x12)
def impl_CompareVersions.j4 : Nat → List (S66) → List (S66) → Int → Int → Int → Option (Int)
  | 0, _, _, _, _, _ => none
  | k + 1, x5, x7, x9, x10, x12 => if x12 = 0 then (impl_CompareVersions.j5 k x5 x7 x9 x12 (x10 == 2)) else (impl_CompareVersions.j5 k x5 x7 x9 x12 false)
def impl_CompareVersions.j5 : Nat → List (S66) → List (S66) → Int → Int → Bool → Option (Int)
  | 0, _, _, _, _, _ => none
  | k + 1, x5, x7, x9, x12, x72 => if x72 = true then (if 0 ≤ x9 then (if x9 < (x5.length : Int) then (if x9 < (x7.length : Int) then (if ((rd_T66 x5 x9).f0) < ((rd_T66 x7 x9).f0) then (impl_CompareVersions.j6 k x5 x7 x9 (-1)) else (if ((rd_T66 x5 x9).f0) > ((rd_T66 x7 x9).f0) then (impl_CompareVersions.j6 k x5 x7 x9 1) else (impl_CompareVersions.j6 k x5 x7 x9 x12))) else (none)) else (none)) else (none)) else (impl_CompareVersions.j6 k x5 x7 x9 x12)
def impl_CompareVersions.j6 : Nat → List (S66) → List (S66) → Int → Int → Option (Int)
  | 0, _, _, _, _ => none
  | k + 1, x5, x7, x9, x12 => if x12 < 0 then (some (-1)) else (if x12 > 0 then (some 1) else (impl_CompareVersions.l0 k x5 x7 (wrap64 (x9 + 1))))
end
def impl_CompareVersions.f (k : Nat) (a0 : ByteArray) (a1 : ByteArray) : Option (Int) := (impl_parts.f k a0).bind fun bt208 => ((impl_parts.f k a1).bind fun bt212 => (if bt208.2 = true then (impl_CompareVersions.j0 k bt208.1 bt212.1 (!bt212.2)) else (impl_CompareVersions.j0 k bt208.1 bt212.1 true)))
set_option maxHeartbeats 8000000 in
set_option maxRecDepth 100000 in
theorem impl_CompareVersions.calls (k : Nat) (a0 : ByteArray) (a1 : ByteArray) (r : Int) (w : World) (h : impl_CompareVersions.f k a0 a1 = some r) :
    Calls Tryd.prog 12 #[.string a0, .string a1] w fun e w' => e = .returned (.int .i64 r) ∧ Below w.heap.size w w' := by
  have HB := Aside0.mk (Below.refl w.heap.size w)
  have H : ((impl_parts.f k a0).bind fun bt208 => ((impl_parts.f k a1).bind fun bt212 => (if bt208.2 = true then (impl_CompareVersions.j0 k bt208.1 bt212.1 (!bt212.2)) else (impl_CompareVersions.j0 k bt208.1 bt212.1 true)))) = some r := h
  clear h
  replace H := Option.bind_eq_some_iff.mp H
  obtain ⟨⟨t208, t209⟩, A30, H⟩ := H
  replace H : ((impl_parts.f k a1).bind fun bt212 => (if t209 = true then (impl_CompareVersions.j0 k t208 bt212.1 (!bt212.2)) else (impl_CompareVersions.j0 k t208 bt212.1 true))) = some r := H
  have A3 := Aside0.mk A30
  clear A30
  replace H := Option.bind_eq_some_iff.mp H
  obtain ⟨⟨t212, t213⟩, A40, H⟩ := H
  replace H : (if t209 = true then (impl_CompareVersions.j0 k t208 t212 (!t213)) else (impl_CompareVersions.j0 k t208 t212 true)) = some r := H
  have A4 := Aside0.mk A40
  clear A40
  have HC5 := Aside0.mk H
  clear H
  go_enter Tryd.func12, Tryd.ntmps12
  go_upto_region 3 with (first | (go_at_call 45; (with_reducible refine (impl_parts.calls k a0 t208 t209 _ A3.out).mono ?_); rintro e w6 ⟨v210, rfl, ho0, hb⟩; have n0_ := Aside0.mk (Kd.R_lower ho0 (below_size (by repeat (first | (with_reducible first | exact HB.out | apply below_alloc | apply pw_below_drewN | apply below_drew1) | exact HB.out)))); have n1_ := Aside0.mk (below_step (by repeat (first | (with_reducible first | exact HB.out | apply below_alloc | apply pw_below_drewN | apply below_drew1) | exact HB.out)) hb); clear HB; have HO211 := n0_; have HB := n1_; clear n0_ n1_; (try clear hb); (try clear hb2); (try clear hk); (try clear hi); (try clear ho0)) | (go_at_call 45; (with_reducible refine (impl_parts.calls k a1 t212 t213 _ A4.out).mono ?_); rintro e w7 ⟨v214, rfl, ho0, hb⟩; have n0_ := Aside0.mk (Kd.R_elder' (by (with_reducible repeat (first | apply Kd.R_alloc | apply Kd.R_drewN | apply Kd.R_drew)); exact HO211.out) (Kd.R_base ho0) hb); have n1_ := Aside0.mk (Kd.R_lower (Kd.R_new' ho0 (Kd.R_lt (by (with_reducible repeat (first | apply Kd.R_alloc | apply Kd.R_drewN | apply Kd.R_drew)); exact HO211.out))) (below_size (by repeat (first | (with_reducible first | exact HB.out | apply below_alloc | apply pw_below_drewN | apply below_drew1) | exact HB.out)))); have n2_ := Aside0.mk (below_step (by repeat (first | (with_reducible first | exact HB.out | apply below_alloc | apply pw_below_drewN | apply below_drew1) | exact HB.out)) hb); clear HO211; clear HB; have HO211 := n0_; have HO215 := n1_; have HB := n2_; clear n0_ n1_ n2_; (try clear hb); (try clear hb2); (try clear hk); (try clear hi); (try clear ho0)))
  repeat (go_quiet (first | (go_at_call 45; (with_reducible refine (impl_parts.calls k a0 t208 t209 _ A3.out).mono ?_); rintro e w6 ⟨v210, rfl, ho0, hb⟩; have n0_ := Aside0.mk (Kd.R_lower ho0 (below_size (by repeat (first | (with_reducible first | exact HB.out | apply below_alloc | apply pw_below_drewN | apply below_drew1) | exact HB.out)))); have n1_ := Aside0.mk (below_step (by repeat (first | (with_reducible first | exact HB.out | apply below_alloc | apply pw_below_drewN | apply below_drew1) | exact HB.out)) hb); clear HB; have HO211 := n0_; have HB := n1_; clear n0_ n1_; (try clear hb); (try clear hb2); (try clear hk); (try clear hi); (try clear ho0)) | (go_at_call 45; (with_reducible refine (impl_parts.calls k a1 t212 t213 _ A4.out).mono ?_); rintro e w7 ⟨v214, rfl, ho0, hb⟩; have n0_ := Aside0.mk (Kd.R_elder' (by (with_reducible repeat (first | apply Kd.R_alloc | apply Kd.R_drewN | apply Kd.R_drew)); exact HO211.out) (Kd.R_base ho0) hb); have n1_ := Aside0.mk (Kd.R_lower (Kd.R_new' ho0 (Kd.R_lt (by (with_reducible repeat (first | apply Kd.R_alloc | apply Kd.R_drewN | apply Kd.R_drew)); exact HO211.out))) (below_size (by repeat (first | (with_reducible first | exact HB.out | apply below_alloc | apply pw_below_drewN | apply below_drew1) | exact HB.out)))); have n2_ := Aside0.mk (below_step (by repeat (first | (with_reducible first | exact HB.out | apply below_alloc | apply pw_below_drewN | apply below_drew1) | exact HB.out)) hb); clear HO211; clear HB; have HO211 := n0_; have HO215 := n1_; have HB := n2_; clear n0_ n1_ n2_; (try clear hb); (try clear hb2); (try clear hk); (try clear hi); (try clear ho0))); go_upto_region 3 with (first | (go_at_call 45; (with_reducible refine (impl_parts.calls k a0 t208 t209 _ A3.out).mono ?_); rintro e w6 ⟨v210, rfl, ho0, hb⟩; have n0_ := Aside0.mk (Kd.R_lower ho0 (below_size (by repeat (first | (with_reducible first | exact HB.out | apply below_alloc | apply pw_below_drewN | apply below_drew1) | exact HB.out)))); have n1_ := Aside0.mk (below_step (by repeat (first | (with_reducible first | exact HB.out | apply below_alloc | apply pw_below_drewN | apply below_drew1) | exact HB.out)) hb); clear HB; have HO211 := n0_; have HB := n1_; clear n0_ n1_; (try clear hb); (try clear hb2); (try clear hk); (try clear hi); (try clear ho0)) | (go_at_call 45; (with_reducible refine (impl_parts.calls k a1 t212 t213 _ A4.out).mono ?_); rintro e w7 ⟨v214, rfl, ho0, hb⟩; have n0_ := Aside0.mk (Kd.R_elder' (by (with_reducible repeat (first | apply Kd.R_alloc | apply Kd.R_drewN | apply Kd.R_drew)); exact HO211.out) (Kd.R_base ho0) hb); have n1_ := Aside0.mk (Kd.R_lower (Kd.R_new' ho0 (Kd.R_lt (by (with_reducible repeat (first | apply Kd.R_alloc | apply Kd.R_drewN | apply Kd.R_drew)); exact HO211.out))) (below_size (by repeat (first | (with_reducible first | exact HB.out | apply below_alloc | apply pw_below_drewN | apply below_drew1) | exact HB.out)))); have n2_ := Aside0.mk (below_step (by repeat (first | (with_reducible first | exact HB.out | apply below_alloc | apply pw_below_drewN | apply below_drew1) | exact HB.out)) hb); clear HO211; clear HB; have HO211 := n0_; have HO215 := n1_; have HB := n2_; clear n0_ n1_ n2_; (try clear hb); (try clear hb2); (try clear hk); (try clear hi); (try clear ho0))))
  (try simp only [Act.put, List.setIfInBounds_toArray, List.set_cons_zero, List.set_cons_succ])
  go_cut [28] (fun v28 wc => ∃ (kq : Nat) (x28_4 : Bool), v28 = .bool x28_4 ∧ Aside0 (impl_CompareVersions.j0 kq t208 t212 x28_4 = some r) ∧ Aside0 (kq ≤ k) ∧ Aside0 (Kd.R k66 66 wc w.heap.size (fun k_ => some k_ ≠ (v214 : Value).ownBlock) v210 t208) ∧ Aside0 (Kd.R k66 66 wc w.heap.size (fun k_ => some k_ ≠ (v210 : Value).ownBlock) v214 t212) ∧ Aside0 (Below w.heap.size w wc))
  case first =>
    have H := HC5.out
    clear HC5
    by_cases c8 : t209 = true
    · subst c8
      have H1 : (impl_CompareVersions.j0 k t208 t212 (!t213)) = some r := by rw [if_pos rfl] at H; exact H
      clear H
      have H := H1
      clear H1
      have H' := Aside0.mk H
      clear H
      go_wp2
      repeat (go_quiet (fail); try go_wp2)
      go_meet
      case rel => exact ⟨_, (!t213), (by first | rfl | (simp; done) | (simp [*]; done)), H', ⟨by first | omega | exact Nat.le_refl _⟩, ⟨by (with_reducible repeat (first | apply Kd.R_alloc | apply Kd.R_drewN | apply Kd.R_drew)); exact Kd.R_mono HO211.out (fun _ hk => hk.2)⟩, ⟨by (with_reducible repeat (first | apply Kd.R_alloc | apply Kd.R_drewN | apply Kd.R_drew)); exact Kd.R_mono HO215.out (fun _ hk => hk.2)⟩, ⟨by repeat (first | (with_reducible first | exact HB.out | apply below_alloc | apply pw_below_drewN | apply below_drew1) | exact HB.out)⟩⟩
    · replace c8 := Bool.eq_false_iff.mpr c8
      subst c8
      have H1 : (impl_CompareVersions.j0 k t208 t212 true) = some r := by rw [if_neg (show ¬ (false = true) by decide)] at H; exact H
      clear H
      have H := H1
      clear H1
      have H' := Aside0.mk H
      clear H
      go_wp2
      repeat (go_quiet (fail); try go_wp2)
      go_meet
      case rel => exact ⟨_, (true), (by first | rfl | (simp; done) | (simp [*]; done)), H', ⟨by first | omega | exact Nat.le_refl _⟩, ⟨by (with_reducible repeat (first | apply Kd.R_alloc | apply Kd.R_drewN | apply Kd.R_drew)); exact Kd.R_mono HO211.out (fun _ hk => hk.2)⟩, ⟨by (with_reducible repeat (first | apply Kd.R_alloc | apply Kd.R_drewN | apply Kd.R_drew)); exact Kd.R_mono HO215.out (fun _ hk => hk.2)⟩, ⟨by repeat (first | (with_reducible first | exact HB.out | apply below_alloc | apply pw_below_drewN | apply below_drew1) | exact HB.out)⟩⟩
  case rest =>
    clear HC5
    try clear c1
    try clear p2
    try clear c8
    obtain ⟨kq, x28_4, rfl, HA, HJ4, HO_5, HO_7, HB⟩ := hcut
    cases kq with
    | zero => exact absurd HA.out (by simp [impl_CompareVersions.j0])
    | succ kj4 =>
      have H := HA.out
      clear HA
      simp only [impl_CompareVersions.j0] at H
      by_cases c9 : x28_4 = true
      · subst c9
        have H1 : (some 2) = some r := by rw [if_pos rfl] at H; exact H
        clear H
        have H := H1
        clear H1
        obtain rfl := Option.some.inj H
        go_wp2
        repeat (go_quiet (fail); try go_wp2)
        go_ret
        exact ⟨by first | rfl | (simp [errW_none, errW_some] <;> rfl) | (simp [*, errW_none, errW_some] <;> rfl), by repeat (first | (with_reducible first | exact HB.out | apply below_alloc | apply pw_below_drewN | apply below_drew1) | exact HB.out)⟩
      · replace c9 := Bool.eq_false_iff.mpr c9
        subst c9
        have H1 : (impl_CompareVersions.l0 kj4 t208 t212 0) = some r := by rw [if_neg (show ¬ (false = true) by decide)] at H; exact H
        clear H
        have H := H1
        clear H1
        have H' := Aside0.mk H
        clear H
        go_wp2
        repeat (go_quiet (fail); try go_wp2)
        go_loopg [9] kj4 (fun kq v9 w' => ∃ (x9_2 : Int), v9 = .int .i64 x9_2 ∧ Aside0 (impl_CompareVersions.l0 kq t208 t212 x9_2 = some r) ∧ Aside0 (kq ≤ kj4) ∧ Aside0 (Kd.R k66 66 w' w.heap.size (fun k_ => some k_ ≠ (v214 : Value).ownBlock) v210 t208) ∧ Aside0 (Kd.R k66 66 w' w.heap.size (fun k_ => some k_ ≠ (v210 : Value).ownBlock) v214 t212) ∧ Aside0 (Below w.heap.size w w'))
        case atStart => exact ⟨(0), (by first | rfl | (simp; done) | (simp [*]; done)), H', ⟨Nat.le_refl _⟩, ⟨by (with_reducible repeat (first | apply Kd.R_alloc | apply Kd.R_drewN | apply Kd.R_drew)); exact HO_5.out⟩, ⟨by (with_reducible repeat (first | apply Kd.R_alloc | apply Kd.R_drewN | apply Kd.R_drew)); exact HO_7.out⟩, ⟨by repeat (first | (with_reducible first | exact HB.out | apply below_alloc | apply pw_below_drewN | apply below_drew1) | exact HB.out)⟩⟩
        case round =>
          clear H'
          try clear c1
          try clear p2
          try clear c8
          try clear c9
          try clear p2
          obtain ⟨x9_2, rfl, HA, HK2, HO_5, HO_7, HB⟩ := hrel
          cases gk with
          | zero => exact absurd HA.out (by simp [impl_CompareVersions.l0])
          | succ k2 =>
            have H := HA.out
            clear HA
            simp only [impl_CompareVersions.l0] at H
            have HC10 := Aside0.mk H
            clear H
            go_upto_region 6 with (fail)
            repeat (go_quiet (fail); go_upto_region 6 with (fail))
            go_cut [38] (fun v38 wc => ∃ (kq : Nat) (x38_9 : Bool), v38 = .bool x38_9 ∧ Aside0 (impl_CompareVersions.j2 kq t208 t212 x9_2 x38_9 = some r) ∧ Aside0 (kq ≤ k2) ∧ Aside0 (Kd.R k66 66 wc w.heap.size (fun k_ => some k_ ≠ (v214 : Value).ownBlock) v210 t208) ∧ Aside0 (Kd.R k66 66 wc w.heap.size (fun k_ => some k_ ≠ (v210 : Value).ownBlock) v214 t212) ∧ Aside0 (Below w.heap.size w wc))
            case first =>
              have H := HC10.out
              clear HC10
              by_cases c11 : x9_2 < (t208.length : Int)
              · rw [if_pos c11] at H
                have c11b0 : decide (x9_2 < (t208.length : Int)) = true := decide_eq_true c11
                clear c11
                (first | rw [c11b0] | (simp only [i64_w, i32_w]; rw [c11b0]) | skip)
                have H' := Aside0.mk H
                clear H
                obtain ⟨Ao12, co12, eo12⟩ := Kd.R_slice HO_5.out
                subst eo12
                go_wp2
                repeat (go_quiet (fail); try go_wp2)
                go_meet
                case rel => exact ⟨_, (true), (by first | rfl | (simp; done) | (simp [*]; done)), H', ⟨by have := HJ4.out; have := HK2.out; first | omega | exact Nat.le_refl _⟩, ⟨by (with_reducible repeat (first | apply Kd.R_alloc | apply Kd.R_drewN | apply Kd.R_drew)); exact HO_5.out⟩, ⟨by (with_reducible repeat (first | apply Kd.R_alloc | apply Kd.R_drewN | apply Kd.R_drew)); exact HO_7.out⟩, ⟨by repeat (first | (with_reducible first | exact HB.out | apply below_alloc | apply pw_below_drewN | apply below_drew1) | exact HB.out)⟩⟩
              · rw [if_neg c11] at H
                have c11b0 : decide (x9_2 < (t208.length : Int)) = false := decide_eq_false c11
                clear c11
                (first | rw [c11b0] | (simp only [i64_w, i32_w]; rw [c11b0]) | skip)
                have H' := Aside0.mk H
                clear H
                obtain ⟨Ao13, co13, eo13⟩ := Kd.R_slice HO_5.out
                subst eo13
                obtain ⟨Ao14, co14, eo14⟩ := Kd.R_slice HO_7.out
                subst eo14
                go_wp2
                repeat (go_quiet (fail); try go_wp2)
                go_meet
                case rel => exact ⟨_, (decide (x9_2 < (t212.length : Int))), (by first | rfl | (simp; done) | (simp [*]; done)), H', ⟨by have := HJ4.out; have := HK2.out; first | omega | exact Nat.le_refl _⟩, ⟨by (with_reducible repeat (first | apply Kd.R_alloc | apply Kd.R_drewN | apply Kd.R_drew)); exact HO_5.out⟩, ⟨by (with_reducible repeat (first | apply Kd.R_alloc | apply Kd.R_drewN | apply Kd.R_drew)); exact HO_7.out⟩, ⟨by repeat (first | (with_reducible first | exact HB.out | apply below_alloc | apply pw_below_drewN | apply below_drew1) | exact HB.out)⟩⟩
            case rest =>
              clear HC10
              try clear c1
              try clear p2
              try clear c8
              try clear c9
              try clear c11
              try clear c11b0
              try clear c12
              try clear p2
              obtain ⟨kq, x38_9, rfl, HA, HJ9, HO_5, HO_7, HB⟩ := hcut
              cases kq with
              | zero => exact absurd HA.out (by simp [impl_CompareVersions.j2])
              | succ kj9 =>
                have H := HA.out
                clear HA
                simp only [impl_CompareVersions.j2] at H
                by_cases c15 : x38_9 = true
                · subst c15
                  have H1 : ((impl_rank.f t208 x9_2).bind fun t216 => ((impl_rank.f t212 x9_2).bind fun t217 => (if (wrap64 (t216 - t217)) = 0 then (impl_CompareVersions.j3 kj9 t208 t212 x9_2 t216 (wrap64 (t216 - t217)) (t216 == 0)) else (impl_CompareVersions.j3 kj9 t208 t212 x9_2 t216 (wrap64 (t216 - t217)) false)))) = some r := by rw [if_pos rfl] at H; exact H
                  clear H
                  have H := H1
                  clear H1
                  replace H := Option.bind_eq_some_iff.mp H
                  obtain ⟨t216, A160, H⟩ := H
                  replace H : ((impl_rank.f t212 x9_2).bind fun t217 => (if (wrap64 (t216 - t217)) = 0 then (impl_CompareVersions.j3 kj9 t208 t212 x9_2 t216 (wrap64 (t216 - t217)) (t216 == 0)) else (impl_CompareVersions.j3 kj9 t208 t212 x9_2 t216 (wrap64 (t216 - t217)) false))) = some r := H
                  have A16 := Aside0.mk A160
                  clear A160
                  replace H := Option.bind_eq_some_iff.mp H
                  obtain ⟨t217, A170, H⟩ := H
                  replace H : (if (wrap64 (t216 - t217)) = 0 then (impl_CompareVersions.j3 kj9 t208 t212 x9_2 t216 (wrap64 (t216 - t217)) (t216 == 0)) else (impl_CompareVersions.j3 kj9 t208 t212 x9_2 t216 (wrap64 (t216 - t217)) false)) = some r := H
                  have A17 := Aside0.mk A170
                  clear A170
                  have HC18 := Aside0.mk H
                  clear H
                  obtain ⟨Ao19, co19, eo19⟩ := Kd.R_slice HO_5.out
                  subst eo19
                  go_upto_region 10 with (first | (go_at_call 46; (with_reducible refine (impl_rank.calls _ _ t208 x9_2 t216 _ ?side1 ?side2 A16.out).mono ?_); (case side1 => repeat (first | exact (Kd.R_reads' HO_5.out).2.2 | (with_reducible refine Kd.C_alloc ?_ _) | (with_reducible refine Kd.C_drewN ?_ _) | (with_reducible refine Kd.C_drew ?_))); (case side2 => exact (Kd.R_reads' HO_5.out).2.1); rintro e w' ⟨rfl, ⟨nd, rfl⟩⟩; (try first | exact ⟨rfl, _, World.drewN_drewN _ _ _⟩ | exact ⟨rfl, _, Eq.trans (World.drewN_drewN _ _ _) (congrArg (World.drewN _) (Nat.add_assoc _ _ _))⟩); obtain ⟨Ao20, co20, eo20⟩ := Kd.R_slice HO_7.out; subst eo20) | (go_at_call 46; (with_reducible refine (impl_rank.calls _ _ t212 x9_2 t217 _ ?side1 ?side2 A17.out).mono ?_); (case side1 => repeat (first | exact (Kd.R_reads' HO_7.out).2.2 | (with_reducible refine Kd.C_alloc ?_ _) | (with_reducible refine Kd.C_drewN ?_ _) | (with_reducible refine Kd.C_drew ?_))); (case side2 => exact (Kd.R_reads' HO_7.out).2.1); rintro e w' ⟨rfl, ⟨nd, rfl⟩⟩; (try first | exact ⟨rfl, _, World.drewN_drewN _ _ _⟩ | exact ⟨rfl, _, Eq.trans (World.drewN_drewN _ _ _) (congrArg (World.drewN _) (Nat.add_assoc _ _ _))⟩)))
                  repeat (go_quiet (first | (go_at_call 46; (with_reducible refine (impl_rank.calls _ _ t208 x9_2 t216 _ ?side1 ?side2 A16.out).mono ?_); (case side1 => repeat (first | exact (Kd.R_reads' HO_5.out).2.2 | (with_reducible refine Kd.C_alloc ?_ _) | (with_reducible refine Kd.C_drewN ?_ _) | (with_reducible refine Kd.C_drew ?_))); (case side2 => exact (Kd.R_reads' HO_5.out).2.1); rintro e w' ⟨rfl, ⟨nd, rfl⟩⟩; (try first | exact ⟨rfl, _, World.drewN_drewN _ _ _⟩ | exact ⟨rfl, _, Eq.trans (World.drewN_drewN _ _ _) (congrArg (World.drewN _) (Nat.add_assoc _ _ _))⟩); obtain ⟨Ao20, co20, eo20⟩ := Kd.R_slice HO_7.out; subst eo20) | (go_at_call 46; (with_reducible refine (impl_rank.calls _ _ t212 x9_2 t217 _ ?side1 ?side2 A17.out).mono ?_); (case side1 => repeat (first | exact (Kd.R_reads' HO_7.out).2.2 | (with_reducible refine Kd.C_alloc ?_ _) | (with_reducible refine Kd.C_drewN ?_ _) | (with_reducible refine Kd.C_drew ?_))); (case side2 => exact (Kd.R_reads' HO_7.out).2.1); rintro e w' ⟨rfl, ⟨nd, rfl⟩⟩; (try first | exact ⟨rfl, _, World.drewN_drewN _ _ _⟩ | exact ⟨rfl, _, Eq.trans (World.drewN_drewN _ _ _) (congrArg (World.drewN _) (Nat.add_assoc _ _ _))⟩))); go_upto_region 10 with (first | (go_at_call 46; (with_reducible refine (impl_rank.calls _ _ t208 x9_2 t216 _ ?side1 ?side2 A16.out).mono ?_); (case side1 => repeat (first | exact (Kd.R_reads' HO_5.out).2.2 | (with_reducible refine Kd.C_alloc ?_ _) | (with_reducible refine Kd.C_drewN ?_ _) | (with_reducible refine Kd.C_drew ?_))); (case side2 => exact (Kd.R_reads' HO_5.out).2.1); rintro e w' ⟨rfl, ⟨nd, rfl⟩⟩; (try first | exact ⟨rfl, _, World.drewN_drewN _ _ _⟩ | exact ⟨rfl, _, Eq.trans (World.drewN_drewN _ _ _) (congrArg (World.drewN _) (Nat.add_assoc _ _ _))⟩); obtain ⟨Ao20, co20, eo20⟩ := Kd.R_slice HO_7.out; subst eo20) | (go_at_call 46; (with_reducible refine (impl_rank.calls _ _ t212 x9_2 t217 _ ?side1 ?side2 A17.out).mono ?_); (case side1 => repeat (first | exact (Kd.R_reads' HO_7.out).2.2 | (with_reducible refine Kd.C_alloc ?_ _) | (with_reducible refine Kd.C_drewN ?_ _) | (with_reducible refine Kd.C_drew ?_))); (case side2 => exact (Kd.R_reads' HO_7.out).2.1); rintro e w' ⟨rfl, ⟨nd, rfl⟩⟩; (try first | exact ⟨rfl, _, World.drewN_drewN _ _ _⟩ | exact ⟨rfl, _, Eq.trans (World.drewN_drewN _ _ _) (congrArg (World.drewN _) (Nat.add_assoc _ _ _))⟩))))
                  (try simp only [Act.put, List.setIfInBounds_toArray, List.set_cons_zero, List.set_cons_succ])
                  go_cut [55] (fun v55 wc => ∃ (kq : Nat) (x55_17 : Bool), v55 = .bool x55_17 ∧ Aside0 (impl_CompareVersions.j3 kq t208 t212 x9_2 t216 (wrap64 (t216 - t217)) x55_17 = some r) ∧ Aside0 (kq ≤ kj9) ∧ Aside0 (Kd.R k66 66 wc w.heap.size (fun k_ => some k_ ≠ ((.slice Ao20 t212.length co20) : Value).ownBlock) (.slice Ao19 t208.length co19) t208) ∧ Aside0 (Kd.R k66 66 wc w.heap.size (fun k_ => some k_ ≠ ((.slice Ao19 t208.length co19) : Value).ownBlock) (.slice Ao20 t212.length co20) t212) ∧ Aside0 (Below w.heap.size w wc))
                  case first =>
                    have H := HC18.out
                    clear HC18
                    by_cases c21 : (wrap64 (t216 - t217)) = 0
                    · rw [if_pos c21] at H
                      have c21b0 : ((wrap64 (t216 - t217)) == 0) = true := beq_iff_eq.mpr c21
                      have c21b1 : ((wrap64 (t216 - t217)) != 0) = false := bne_eq_false_iff_eq.mpr c21
                      clear c21
                      (first | rw [c21b0] | (simp only [i64_w, i32_w]; rw [c21b0]) | skip)
                      have H' := Aside0.mk H
                      clear H
                      go_wp2
                      repeat (go_quiet (fail); try go_wp2)
                      go_meet
                      case rel => exact ⟨_, ((t216 == 0)), (by first | rfl | (simp; done) | (simp [*]; done)), H', ⟨by have := HJ4.out; have := HK2.out; have := HJ9.out; first | omega | exact Nat.le_refl _⟩, ⟨by (with_reducible repeat (first | apply Kd.R_alloc | apply Kd.R_drewN | apply Kd.R_drew)); exact HO_5.out⟩, ⟨by (with_reducible repeat (first | apply Kd.R_alloc | apply Kd.R_drewN | apply Kd.R_drew)); exact HO_7.out⟩, ⟨by repeat (first | (with_reducible first | exact HB.out | apply below_alloc | apply pw_below_drewN | apply below_drew1) | exact HB.out)⟩⟩
                    · rw [if_neg c21] at H
                      have c21b0 : ((wrap64 (t216 - t217)) == 0) = false := beq_eq_false_iff_ne.mpr c21
                      have c21b1 : ((wrap64 (t216 - t217)) != 0) = true := bne_iff_ne.mpr c21
                      (first | rw [c21b0] | (simp only [i64_w, i32_w]; rw [c21b0]) | skip)
                      have H' := Aside0.mk H
                      clear H
                      go_wp2
                      repeat (go_quiet (fail); try go_wp2)
                      go_meet
                      case rel => exact ⟨_, (false), (by first | rfl | (simp; done) | (simp [*]; done)), H', ⟨by have := HJ4.out; have := HK2.out; have := HJ9.out; first | omega | exact Nat.le_refl _⟩, ⟨by (with_reducible repeat (first | apply Kd.R_alloc | apply Kd.R_drewN | apply Kd.R_drew)); exact HO_5.out⟩, ⟨by (with_reducible repeat (first | apply Kd.R_alloc | apply Kd.R_drewN | apply Kd.R_drew)); exact HO_7.out⟩, ⟨by repeat (first | (with_reducible first | exact HB.out | apply below_alloc | apply pw_below_drewN | apply below_drew1) | exact HB.out)⟩⟩
                  case rest =>
                    clear HC18
                    try clear c1
                    try clear c2
                    try clear p2
                    try clear p6
                    try clear c8
                    try clear c9
                    try clear c11
                    try clear c11b0
                    try clear c12
                    try clear c15
                    try clear c21
                    try clear c21b0
                    try clear c21b1
                    try clear p2
                    obtain ⟨kq, x55_17, rfl, HA, HJ17, HO_5, HO_7, HB⟩ := hcut
                    cases kq with
                    | zero => exact absurd HA.out (by simp [impl_CompareVersions.j3])
                    | succ kj17 =>
                      have H := HA.out
                      clear HA
                      simp only [impl_CompareVersions.j3] at H
                      have HC22 := Aside0.mk H
                      clear H
                      go_upto_if 55 with (fail)
                      repeat (go_quiet (fail); go_upto_if 55 with (fail))
                      go_cut [12] (fun v12 wc => ∃ (kq : Nat) (x12_21 : Int), v12 = .int .i64 x12_21 ∧ Aside0 (impl_CompareVersions.j4 kq t208 t212 x9_2 t216 x12_21 = some r) ∧ Aside0 (kq ≤ kj17) ∧ Aside0 (Kd.R k66 66 wc w.heap.size (fun k_ => some k_ ≠ ((.slice Ao20 t212.length co20) : Value).ownBlock) (.slice Ao19 t208.length co19) t208) ∧ Aside0 (Kd.R k66 66 wc w.heap.size (fun k_ => some k_ ≠ ((.slice Ao19 t208.length co19) : Value).ownBlock) (.slice Ao20 t212.length co20) t212) ∧ Aside0 (Below w.heap.size w wc))
                      case first =>
                        have H := HC22.out
                        clear HC22
                        by_cases c23 : x55_17 = true
                        · subst c23
                          have H1 : (if 0 ≤ x9_2 then (if x9_2 < (t208.length : Int) then (if x9_2 < (t212.length : Int) then ((strings_Compare.f ((rd_T66 t208 x9_2).f1) ((rd_T66 t212 x9_2).f1)).bind fun t220 => (impl_CompareVersions.j4 kj17 t208 t212 x9_2 t216 t220)) else (none)) else (none)) else (none)) = some r := by rw [if_pos rfl] at H; exact H
                          clear H
                          have H := H1
                          clear H1
                          by_cases c24 : 0 ≤ x9_2
                          · rw [if_pos c24] at H
                            have c24b0 : decide (0 ≤ x9_2) = true := decide_eq_true c24
                            clear c24
                            (first | rw [c24b0] | (simp only [i64_w, i32_w]; rw [c24b0]) | skip)
                            by_cases c25 : x9_2 < (t208.length : Int)
                            · rw [if_pos c25] at H
                              have c25b0 : decide (x9_2 < (t208.length : Int)) = true := decide_eq_true c25
                              clear c25
                              by_cases c26 : x9_2 < (t212.length : Int)
                              · rw [if_pos c26] at H
                                have c26b0 : decide (x9_2 < (t212.length : Int)) = true := decide_eq_true c26
                                clear c26
                                replace H := Option.bind_eq_some_iff.mp H
                                obtain ⟨t220, A270, H⟩ := H
                                replace H : (impl_CompareVersions.j4 kj17 t208 t212 x9_2 t216 t220) = some r := H
                                have A27 := Aside0.mk A270
                                clear A270
                                have H' := Aside0.mk H
                                clear H
                                have p218 : 0 ≤ (x9_2 : Int) := of_decide_eq_true (by first | (with_reducible assumption) | assumption)
                                have q218 : x9_2 < (t208.length : Int) := of_decide_eq_true (by first | (with_reducible assumption) | assumption)
                                obtain ⟨ad218, e218, hx218_0, hx218_1⟩ := at_T66 (Kd.R_reads' HO_5.out).2.2 x9_2 p218 q218
                                cases e218
                                replace p218 := eq_true p218
                                replace q218 := eq_true q218
                                have p219 : 0 ≤ (x9_2 : Int) := of_decide_eq_true (by first | (with_reducible assumption) | assumption)
                                have q219 : x9_2 < (t212.length : Int) := of_decide_eq_true (by first | (with_reducible assumption) | assumption)
                                obtain ⟨ad219, e219, hx219_0, hx219_1⟩ := at_T66 (Kd.R_reads' HO_7.out).2.2 x9_2 p219 q219
                                cases e219
                                replace p219 := eq_true p219
                                replace q219 := eq_true q219
                                go_wp2_with (first | (go_at_call 47; (with_reducible refine (strings_Compare.calls ((rd_T66 t208 x9_2).f1) ((rd_T66 t212 x9_2).f1) t220 _ A27.out).mono ?_); rintro e w' ⟨rfl, ⟨nd, rfl⟩⟩; (try first | exact ⟨rfl, _, World.drewN_drewN _ _ _⟩ | exact ⟨rfl, _, Eq.trans (World.drewN_drewN _ _ _) (congrArg (World.drewN _) (Nat.add_assoc _ _ _))⟩)))
                                repeat (go_quiet (first | (go_at_call 47; (with_reducible refine (strings_Compare.calls ((rd_T66 t208 x9_2).f1) ((rd_T66 t212 x9_2).f1) t220 _ A27.out).mono ?_); rintro e w' ⟨rfl, ⟨nd, rfl⟩⟩; (try first | exact ⟨rfl, _, World.drewN_drewN _ _ _⟩ | exact ⟨rfl, _, Eq.trans (World.drewN_drewN _ _ _) (congrArg (World.drewN _) (Nat.add_assoc _ _ _))⟩))); try go_wp2_with (first | (go_at_call 47; (with_reducible refine (strings_Compare.calls ((rd_T66 t208 x9_2).f1) ((rd_T66 t212 x9_2).f1) t220 _ A27.out).mono ?_); rintro e w' ⟨rfl, ⟨nd, rfl⟩⟩; (try first | exact ⟨rfl, _, World.drewN_drewN _ _ _⟩ | exact ⟨rfl, _, Eq.trans (World.drewN_drewN _ _ _) (congrArg (World.drewN _) (Nat.add_assoc _ _ _))⟩))))
                                go_meet
                                case rel => exact ⟨_, (t220), (by first | rfl | (simp; done) | (simp [*]; done)), H', ⟨by have := HJ4.out; have := HK2.out; have := HJ9.out; have := HJ17.out; first | omega | exact Nat.le_refl _⟩, ⟨by (with_reducible repeat (first | apply Kd.R_alloc | apply Kd.R_drewN | apply Kd.R_drew)); exact HO_5.out⟩, ⟨by (with_reducible repeat (first | apply Kd.R_alloc | apply Kd.R_drewN | apply Kd.R_drew)); exact HO_7.out⟩, ⟨by repeat (first | (with_reducible first | exact HB.out | apply below_alloc | apply pw_below_drewN | apply below_drew1) | exact HB.out)⟩⟩
                              · rw [if_neg c26] at H
                                exact absurd H (by simp)
                            · rw [if_neg c25] at H
                              exact absurd H (by simp)
                          · rw [if_neg c24] at H
                            exact absurd H (by simp)
                        · replace c23 := Bool.eq_false_iff.mpr c23
                          subst c23
                          have H1 : (impl_CompareVersions.j4 kj17 t208 t212 x9_2 t216 (wrap64 (t216 - t217))) = some r := by rw [if_neg (show ¬ (false = true) by decide)] at H; exact H
                          clear H
                          have H := H1
                          clear H1
                          have H' := Aside0.mk H
                          clear H
                          go_wp2
                          repeat (go_quiet (fail); try go_wp2)
                          go_meet
                          case rel => exact ⟨_, ((wrap64 (t216 - t217))), (by first | rfl | (simp; done) | (simp [*]; done)), H', ⟨by have := HJ4.out; have := HK2.out; have := HJ9.out; have := HJ17.out; first | omega | exact Nat.le_refl _⟩, ⟨by (with_reducible repeat (first | apply Kd.R_alloc | apply Kd.R_drewN | apply Kd.R_drew)); exact HO_5.out⟩, ⟨by (with_reducible repeat (first | apply Kd.R_alloc | apply Kd.R_drewN | apply Kd.R_drew)); exact HO_7.out⟩, ⟨by repeat (first | (with_reducible first | exact HB.out | apply below_alloc | apply pw_below_drewN | apply below_drew1) | exact HB.out)⟩⟩
                      case rest =>
                        clear HC22
                        try clear c1
                        try clear c2
                        try clear p2
                        try clear q2
                        try clear hx2
                        try clear p6
                        try clear c8
                        try clear c9
                        try clear c11
                        try clear c11b0
                        try clear c12
                        try clear c15
                        try clear c21
                        try clear c21b0
                        try clear c21b1
                        try clear p21
                        try clear q21
                        try clear hx21
                        try clear c23
                        try clear c24
                        try clear c24b0
                        try clear c25
                        try clear c25b0
                        try clear c26
                        try clear c26b0
                        try clear hx218_0
                        try clear hx218_1
                        try clear hx219_0
                        try clear hx219_1
                        try clear p2
                        try clear p218
                        try clear p219
                        try clear p6
                        try clear q218
                        try clear q219
                        obtain ⟨kq, x12_21, rfl, HA, HJ21, HO_5, HO_7, HB⟩ := hcut
                        cases kq with
                        | zero => exact absurd HA.out (by simp [impl_CompareVersions.j4])
                        | succ kj21 =>
                          have H := HA.out
                          clear HA
                          simp only [impl_CompareVersions.j4] at H
                          have HC28 := Aside0.mk H
                          clear H
                          go_upto_region 12 with (fail)
                          repeat (go_quiet (fail); go_upto_region 12 with (fail))
                          go_cut [72] (fun v72 wc => ∃ (kq : Nat) (x72_27 : Bool), v72 = .bool x72_27 ∧ Aside0 (impl_CompareVersions.j5 kq t208 t212 x9_2 x12_21 x72_27 = some r) ∧ Aside0 (kq ≤ kj21) ∧ Aside0 (Kd.R k66 66 wc w.heap.size (fun k_ => some k_ ≠ ((.slice Ao20 t212.length co20) : Value).ownBlock) (.slice Ao19 t208.length co19) t208) ∧ Aside0 (Kd.R k66 66 wc w.heap.size (fun k_ => some k_ ≠ ((.slice Ao19 t208.length co19) : Value).ownBlock) (.slice Ao20 t212.length co20) t212) ∧ Aside0 (Below w.heap.size w wc))
                          case first =>
                            have H := HC28.out
                            clear HC28
                            by_cases c29 : x12_21 = 0
                            · rw [if_pos c29] at H
                              have c29b0 : (x12_21 == 0) = true := beq_iff_eq.mpr c29
                              have c29b1 : (x12_21 != 0) = false := bne_eq_false_iff_eq.mpr c29
                              clear c29
                              (first | rw [c29b0] | (simp only [i64_w, i32_w]; rw [c29b0]) | skip)
                              have H' := Aside0.mk H
                              clear H
                              go_wp2
                              repeat (go_quiet (fail); try go_wp2)
                              go_meet
                              case rel => exact ⟨_, ((t216 == 2)), (by first | rfl | (simp; done) | (simp [*]; done)), H', ⟨by have := HJ4.out; have := HK2.out; have := HJ9.out; have := HJ17.out; have := HJ21.out; first | omega | exact Nat.le_refl _⟩, ⟨by (with_reducible repeat (first | apply Kd.R_alloc | apply Kd.R_drewN | apply Kd.R_drew)); exact HO_5.out⟩, ⟨by (with_reducible repeat (first | apply Kd.R_alloc | apply Kd.R_drewN | apply Kd.R_drew)); exact HO_7.out⟩, ⟨by repeat (first | (with_reducible first | exact HB.out | apply below_alloc | apply pw_below_drewN | apply below_drew1) | exact HB.out)⟩⟩
                            · rw [if_neg c29] at H
                              have c29b0 : (x12_21 == 0) = false := beq_eq_false_iff_ne.mpr c29
                              have c29b1 : (x12_21 != 0) = true := bne_iff_ne.mpr c29
                              (first | rw [c29b0] | (simp only [i64_w, i32_w]; rw [c29b0]) | skip)
                              have H' := Aside0.mk H
                              clear H
                              go_wp2
                              repeat (go_quiet (fail); try go_wp2)
                              go_meet
                              case rel => exact ⟨_, (false), (by first | rfl | (simp; done) | (simp [*]; done)), H', ⟨by have := HJ4.out; have := HK2.out; have := HJ9.out; have := HJ17.out; have := HJ21.out; first | omega | exact Nat.le_refl _⟩, ⟨by (with_reducible repeat (first | apply Kd.R_alloc | apply Kd.R_drewN | apply Kd.R_drew)); exact HO_5.out⟩, ⟨by (with_reducible repeat (first | apply Kd.R_alloc | apply Kd.R_drewN | apply Kd.R_drew)); exact HO_7.out⟩, ⟨by repeat (first | (with_reducible first | exact HB.out | apply below_alloc | apply pw_below_drewN | apply below_drew1) | exact HB.out)⟩⟩
                          case rest =>
                            clear HC28
                            try clear c1
                            try clear c2
                            try clear p2
                            try clear q2
                            try clear hx2
                            try clear p6
                            try clear c8
                            try clear c9
                            try clear c11
                            try clear c11b0
                            try clear c12
                            try clear c15
                            try clear c21
                            try clear c21b0
                            try clear c21b1
                            try clear p21
                            try clear q21
                            try clear hx21
                            try clear c23
                            try clear c24
                            try clear c24b0
                            try clear c25
                            try clear c25b0
                            try clear c26
                            try clear c26b0
                            try clear c29
                            try clear c29b0
                            try clear c29b1
                            try clear hx218_0
                            try clear hx218_1
                            try clear hx219_0
                            try clear hx219_1
                            try clear p2
                            try clear p21
                            try clear p218
                            try clear p219
                            try clear p6
                            try clear q2
                            try clear q21
                            try clear q218
                            try clear q219
                            obtain ⟨kq, x72_27, rfl, HA, HJ27, HO_5, HO_7, HB⟩ := hcut
                            cases kq with
                            | zero => exact absurd HA.out (by simp [impl_CompareVersions.j5])
                            | succ kj27 =>
                              have H := HA.out
                              clear HA
                              simp only [impl_CompareVersions.j5] at H
                              have HC30 := Aside0.mk H
                              clear H
                              go_upto_if 72 with (fail)
                              repeat (go_quiet (fail); go_upto_if 72 with (fail))
                              go_cut [12] (fun v12 wc => ∃ (kq : Nat) (x12_29 : Int), v12 = .int .i64 x12_29 ∧ Aside0 (impl_CompareVersions.j6 kq t208 t212 x9_2 x12_29 = some r) ∧ Aside0 (kq ≤ kj27) ∧ Aside0 (Kd.R k66 66 wc w.heap.size (fun k_ => some k_ ≠ ((.slice Ao20 t212.length co20) : Value).ownBlock) (.slice Ao19 t208.length co19) t208) ∧ Aside0 (Kd.R k66 66 wc w.heap.size (fun k_ => some k_ ≠ ((.slice Ao19 t208.length co19) : Value).ownBlock) (.slice Ao20 t212.length co20) t212) ∧ Aside0 (Below w.heap.size w wc))
                              case first =>
                                have H := HC30.out
                                clear HC30
                                by_cases c31 : x72_27 = true
                                · subst c31
                                  have H1 : (if 0 ≤ x9_2 then (if x9_2 < (t208.length : Int) then (if x9_2 < (t212.length : Int) then (if ((rd_T66 t208 x9_2).f0) < ((rd_T66 t212 x9_2).f0) then (impl_CompareVersions.j6 kj27 t208 t212 x9_2 (-1)) else (if ((rd_T66 t208 x9_2).f0) > ((rd_T66 t212 x9_2).f0) then (impl_CompareVersions.j6 kj27 t208 t212 x9_2 1) else (impl_CompareVersions.j6 kj27 t208 t212 x9_2 x12_21))) else (none)) else (none)) else (none)) = some r := by rw [if_pos rfl] at H; exact H
                                  clear H
                                  have H := H1
                                  clear H1
                                  by_cases c32 : 0 ≤ x9_2
                                  · rw [if_pos c32] at H
                                    have c32b0 : decide (0 ≤ x9_2) = true := decide_eq_true c32
                                    clear c32
                                    (first | rw [c32b0] | (simp only [i64_w, i32_w]; rw [c32b0]) | skip)
                                    by_cases c33 : x9_2 < (t208.length : Int)
                                    · rw [if_pos c33] at H
                                      have c33b0 : decide (x9_2 < (t208.length : Int)) = true := decide_eq_true c33
                                      clear c33
                                      by_cases c34 : x9_2 < (t212.length : Int)
                                      · rw [if_pos c34] at H
                                        have c34b0 : decide (x9_2 < (t212.length : Int)) = true := decide_eq_true c34
                                        clear c34
                                        by_cases c35 : ((rd_T66 t208 x9_2).f0) < ((rd_T66 t212 x9_2).f0)
                                        · rw [if_pos c35] at H
                                          have c35b0 : decide (((rd_T66 t208 x9_2).f0) < ((rd_T66 t212 x9_2).f0)) = true := decide_eq_true c35
                                          clear c35
                                          have H' := Aside0.mk H
                                          clear H
                                          have p221 : 0 ≤ (x9_2 : Int) := of_decide_eq_true (by first | (with_reducible assumption) | assumption)
                                          have q221 : x9_2 < (t208.length : Int) := of_decide_eq_true (by first | (with_reducible assumption) | assumption)
                                          obtain ⟨ad221, e221, hx221_0, hx221_1⟩ := at_T66 (Kd.R_reads' HO_5.out).2.2 x9_2 p221 q221
                                          cases e221
                                          replace p221 := eq_true p221
                                          replace q221 := eq_true q221
                                          have p222 : 0 ≤ (x9_2 : Int) := of_decide_eq_true (by first | (with_reducible assumption) | assumption)
                                          have q222 : x9_2 < (t212.length : Int) := of_decide_eq_true (by first | (with_reducible assumption) | assumption)
                                          obtain ⟨ad222, e222, hx222_0, hx222_1⟩ := at_T66 (Kd.R_reads' HO_7.out).2.2 x9_2 p222 q222
                                          cases e222
                                          replace p222 := eq_true p222
                                          replace q222 := eq_true q222
                                          go_wp2
                                          repeat (go_quiet (fail); try go_wp2)
                                          go_meet
                                          case rel => exact ⟨_, ((-1)), (by first | rfl | (simp; done) | (simp [*]; done)), H', ⟨by have := HJ4.out; have := HK2.out; have := HJ9.out; have := HJ17.out; have := HJ21.out; have := HJ27.out; first | omega | exact Nat.le_refl _⟩, ⟨by (with_reducible repeat (first | apply Kd.R_alloc | apply Kd.R_drewN | apply Kd.R_drew)); exact HO_5.out⟩, ⟨by (with_reducible repeat (first | apply Kd.R_alloc | apply Kd.R_drewN | apply Kd.R_drew)); exact HO_7.out⟩, ⟨by repeat (first | (with_reducible first | exact HB.out | apply below_alloc | apply pw_below_drewN | apply below_drew1) | exact HB.out)⟩⟩
                                        · rw [if_neg c35] at H
                                          have c35b0 : decide (((rd_T66 t208 x9_2).f0) < ((rd_T66 t212 x9_2).f0)) = false := decide_eq_false c35
                                          clear c35
                                          by_cases c36 : ((rd_T66 t208 x9_2).f0) > ((rd_T66 t212 x9_2).f0)
                                          · rw [if_pos c36] at H
                                            have c36b0 : decide (((rd_T66 t212 x9_2).f0) < ((rd_T66 t208 x9_2).f0)) = true := decide_eq_true c36
                                            clear c36
                                            have H' := Aside0.mk H
                                            clear H
                                            have p221 : 0 ≤ (x9_2 : Int) := of_decide_eq_true (by first | (with_reducible assumption) | assumption)
                                            have q221 : x9_2 < (t208.length : Int) := of_decide_eq_true (by first | (with_reducible assumption) | assumption)
                                            obtain ⟨ad221, e221, hx221_0, hx221_1⟩ := at_T66 (Kd.R_reads' HO_5.out).2.2 x9_2 p221 q221
                                            cases e221
                                            replace p221 := eq_true p221
                                            replace q221 := eq_true q221
                                            have p222 : 0 ≤ (x9_2 : Int) := of_decide_eq_true (by first | (with_reducible assumption) | assumption)
                                            have q222 : x9_2 < (t212.length : Int) := of_decide_eq_true (by first | (with_reducible assumption) | assumption)
                                            obtain ⟨ad222, e222, hx222_0, hx222_1⟩ := at_T66 (Kd.R_reads' HO_7.out).2.2 x9_2 p222 q222
                                            cases e222
                                            replace p222 := eq_true p222
                                            replace q222 := eq_true q222
                                            have p223 : 0 ≤ (x9_2 : Int) := of_decide_eq_true (by first | (with_reducible assumption) | assumption)
                                            have q223 : x9_2 < (t208.length : Int) := of_decide_eq_true (by first | (with_reducible assumption) | assumption)
                                            obtain ⟨ad223, e223, hx223_0, hx223_1⟩ := at_T66 (Kd.R_reads' HO_5.out).2.2 x9_2 p223 q223
                                            obtain rfl : ad221 = ad223 := (by injection e223)
                                            replace p223 := eq_true p223
                                            replace q223 := eq_true q223
                                            have p224 : 0 ≤ (x9_2 : Int) := of_decide_eq_true (by first | (with_reducible assumption) | assumption)
                                            have q224 : x9_2 < (t212.length : Int) := of_decide_eq_true (by first | (with_reducible assumption) | assumption)
                                            obtain ⟨ad224, e224, hx224_0, hx224_1⟩ := at_T66 (Kd.R_reads' HO_7.out).2.2 x9_2 p224 q224
                                            obtain rfl : ad222 = ad224 := (by injection e224)
                                            replace p224 := eq_true p224
                                            replace q224 := eq_true q224
                                            go_wp2
                                            repeat (go_quiet (fail); try go_wp2)
                                            go_meet
                                            case rel => exact ⟨_, (1), (by first | rfl | (simp; done) | (simp [*]; done)), H', ⟨by have := HJ4.out; have := HK2.out; have := HJ9.out; have := HJ17.out; have := HJ21.out; have := HJ27.out; first | omega | exact Nat.le_refl _⟩, ⟨by (with_reducible repeat (first | apply Kd.R_alloc | apply Kd.R_drewN | apply Kd.R_drew)); exact HO_5.out⟩, ⟨by (with_reducible repeat (first | apply Kd.R_alloc | apply Kd.R_drewN | apply Kd.R_drew)); exact HO_7.out⟩, ⟨by repeat (first | (with_reducible first | exact HB.out | apply below_alloc | apply pw_below_drewN | apply below_drew1) | exact HB.out)⟩⟩
                                          · rw [if_neg c36] at H
                                            have c36b0 : decide (((rd_T66 t212 x9_2).f0) < ((rd_T66 t208 x9_2).f0)) = false := decide_eq_false c36
                                            clear c36
                                            have H' := Aside0.mk H
                                            clear H
                                            have p221 : 0 ≤ (x9_2 : Int) := of_decide_eq_true (by first | (with_reducible assumption) | assumption)
                                            have q221 : x9_2 < (t208.length : Int) := of_decide_eq_true (by first | (with_reducible assumption) | assumption)
                                            obtain ⟨ad221, e221, hx221_0, hx221_1⟩ := at_T66 (Kd.R_reads' HO_5.out).2.2 x9_2 p221 q221
                                            cases e221
                                            replace p221 := eq_true p221
                                            replace q221 := eq_true q221
                                            have p222 : 0 ≤ (x9_2 : Int) := of_decide_eq_true (by first | (with_reducible assumption) | assumption)
                                            have q222 : x9_2 < (t212.length : Int) := of_decide_eq_true (by first | (with_reducible assumption) | assumption)
                                            obtain ⟨ad222, e222, hx222_0, hx222_1⟩ := at_T66 (Kd.R_reads' HO_7.out).2.2 x9_2 p222 q222
                                            cases e222
                                            replace p222 := eq_true p222
                                            replace q222 := eq_true q222
                                            have p223 : 0 ≤ (x9_2 : Int) := of_decide_eq_true (by first | (with_reducible assumption) | assumption)
                                            have q223 : x9_2 < (t208.length : Int) := of_decide_eq_true (by first | (with_reducible assumption) | assumption)
                                            obtain ⟨ad223, e223, hx223_0, hx223_1⟩ := at_T66 (Kd.R_reads' HO_5.out).2.2 x9_2 p223 q223
                                            obtain rfl : ad221 = ad223 := (by injection e223)
                                            replace p223 := eq_true p223
                                            replace q223 := eq_true q223
                                            have p224 : 0 ≤ (x9_2 : Int) := of_decide_eq_true (by first | (with_reducible assumption) | assumption)
                                            have q224 : x9_2 < (t212.length : Int) := of_decide_eq_true (by first | (with_reducible assumption) | assumption)
                                            obtain ⟨ad224, e224, hx224_0, hx224_1⟩ := at_T66 (Kd.R_reads' HO_7.out).2.2 x9_2 p224 q224
                                            obtain rfl : ad222 = ad224 := (by injection e224)
                                            replace p224 := eq_true p224
                                            replace q224 := eq_true q224
                                            go_wp2
                                            repeat (go_quiet (fail); try go_wp2)
                                            go_meet
                                            case rel => exact ⟨_, (x12_21), (by first | rfl | (simp; done) | (simp [*]; done)), H', ⟨by have := HJ4.out; have := HK2.out; have := HJ9.out; have := HJ17.out; have := HJ21.out; have := HJ27.out; first | omega | exact Nat.le_refl _⟩, ⟨by (with_reducible repeat (first | apply Kd.R_alloc | apply Kd.R_drewN | apply Kd.R_drew)); exact HO_5.out⟩, ⟨by (with_reducible repeat (first | apply Kd.R_alloc | apply Kd.R_drewN | apply Kd.R_drew)); exact HO_7.out⟩, ⟨by repeat (first | (with_reducible first | exact HB.out | apply below_alloc | apply pw_below_drewN | apply below_drew1) | exact HB.out)⟩⟩
                                      · rw [if_neg c34] at H
                                        exact absurd H (by simp)
                                    · rw [if_neg c33] at H
                                      exact absurd H (by simp)
                                  · rw [if_neg c32] at H
                                    exact absurd H (by simp)
                                · replace c31 := Bool.eq_false_iff.mpr c31
                                  subst c31
                                  have H1 : (impl_CompareVersions.j6 kj27 t208 t212 x9_2 x12_21) = some r := by rw [if_neg (show ¬ (false = true) by decide)] at H; exact H
                                  clear H
                                  have H := H1
                                  clear H1
                                  have H' := Aside0.mk H
                                  clear H
                                  go_wp2
                                  repeat (go_quiet (fail); try go_wp2)
                                  go_meet
                                  case rel => exact ⟨_, (x12_21), (by first | rfl | (simp; done) | (simp [*]; done)), H', ⟨by have := HJ4.out; have := HK2.out; have := HJ9.out; have := HJ17.out; have := HJ21.out; have := HJ27.out; first | omega | exact Nat.le_refl _⟩, ⟨by (with_reducible repeat (first | apply Kd.R_alloc | apply Kd.R_drewN | apply Kd.R_drew)); exact HO_5.out⟩, ⟨by (with_reducible repeat (first | apply Kd.R_alloc | apply Kd.R_drewN | apply Kd.R_drew)); exact HO_7.out⟩, ⟨by repeat (first | (with_reducible first | exact HB.out | apply below_alloc | apply pw_below_drewN | apply below_drew1) | exact HB.out)⟩⟩
                              case rest =>
                                clear HC30
                                try clear c1
                                try clear c2
                                try clear p2
                                try clear q2
                                try clear hx2
                                try clear c3
                                try clear p6
                                try clear c8
                                try clear c9
                                try clear c11
                                try clear c11b0
                                try clear c12
                                try clear c15
                                try clear c21
                                try clear c21b0
                                try clear c21b1
                                try clear p21
                                try clear q21
                                try clear hx21
                                try clear p22
                                try clear q22
                                try clear hx22
                                try clear c23
                                try clear c24
                                try clear c24b0
                                try clear c25
                                try clear c25b0
                                try clear c26
                                try clear c26b0
                                try clear c29
                                try clear c29b0
                                try clear c29b1
                                try clear c31
                                try clear c32
                                try clear c32b0
                                try clear c33
                                try clear c33b0
                                try clear c34
                                try clear c34b0
                                try clear c35
                                try clear c35b0
                                try clear c36
                                try clear c36b0
                                try clear hx218_0
                                try clear hx218_1
                                try clear hx219_0
                                try clear hx219_1
                                try clear hx221_0
                                try clear hx221_1
                                try clear hx222_0
                                try clear hx222_1
                                try clear hx223_0
                                try clear hx223_1
                                try clear hx224_0
                                try clear hx224_1
                                try clear p2
                                try clear p21
                                try clear p218
                                try clear p219
                                try clear p221
                                try clear p222
                                try clear p223
                                try clear p224
                                try clear p6
                                try clear q2
                                try clear q21
                                try clear q218
                                try clear q219
                                try clear q221
                                try clear q222
                                try clear q223
                                try clear q224
                                obtain ⟨kq, x12_29, rfl, HA, HJ29, HO_5, HO_7, HB⟩ := hcut
                                cases kq with
                                | zero => exact absurd HA.out (by simp [impl_CompareVersions.j6])
                                | succ kj29 =>
                                  have H := HA.out
                                  clear HA
                                  simp only [impl_CompareVersions.j6] at H
                                  by_cases c37 : x12_29 < 0
                                  · rw [if_pos c37] at H
                                    have c37b0 : decide (x12_29 < 0) = true := decide_eq_true c37
                                    clear c37
                                    obtain rfl := Option.some.inj H
                                    go_wp2
                                    repeat (go_quiet (fail); try go_wp2)
                                    go_ret
                                    exact ⟨by first | rfl | (simp [errW_none, errW_some] <;> rfl) | (simp [*, errW_none, errW_some] <;> rfl), by repeat (first | (with_reducible first | exact HB.out | apply below_alloc | apply pw_below_drewN | apply below_drew1) | exact HB.out)⟩
                                  · rw [if_neg c37] at H
                                    have c37b0 : decide (x12_29 < 0) = false := decide_eq_false c37
                                    clear c37
                                    by_cases c38 : x12_29 > 0
                                    · rw [if_pos c38] at H
                                      have c38b0 : decide (0 < x12_29) = true := decide_eq_true c38
                                      clear c38
                                      obtain rfl := Option.some.inj H
                                      go_wp2
                                      repeat (go_quiet (fail); try go_wp2)
                                      go_ret
                                      exact ⟨by first | rfl | (simp [errW_none, errW_some] <;> rfl) | (simp [*, errW_none, errW_some] <;> rfl), by repeat (first | (with_reducible first | exact HB.out | apply below_alloc | apply pw_below_drewN | apply below_drew1) | exact HB.out)⟩
                                    · rw [if_neg c38] at H
                                      have c38b0 : decide (0 < x12_29) = false := decide_eq_false c38
                                      clear c38
                                      have H' := Aside0.mk H
                                      clear H
                                      go_wp2
                                      repeat (go_quiet (fail); try go_wp2)
                                      go_roundg kj29
                                      case measure => have := HJ4.out; have := HK2.out; have := HJ9.out; have := HJ17.out; have := HJ21.out; have := HJ27.out; have := HJ29.out; omega
                                      case rel => exact ⟨(wrap64 (x9_2 + 1)), (by first | rfl | (simp; done) | (simp [*]; done)), H', ⟨by have := HJ4.out; have := HK2.out; have := HJ9.out; have := HJ17.out; have := HJ21.out; have := HJ27.out; have := HJ29.out; omega⟩, ⟨by (with_reducible repeat (first | apply Kd.R_alloc | apply Kd.R_drewN | apply Kd.R_drew)); exact HO_5.out⟩, ⟨by (with_reducible repeat (first | apply Kd.R_alloc | apply Kd.R_drewN | apply Kd.R_drew)); exact HO_7.out⟩, ⟨by repeat (first | (with_reducible first | exact HB.out | apply below_alloc | apply pw_below_drewN | apply below_drew1) | exact HB.out)⟩⟩
                · replace c15 := Bool.eq_false_iff.mpr c15
                  subst c15
                  have H1 : (some 0) = some r := by rw [if_neg (show ¬ (false = true) by decide)] at H; exact H
                  clear H
                  have H := H1
                  clear H1
                  obtain rfl := Option.some.inj H
                  go_wp2
                  repeat (go_quiet (fail); try go_wp2)
                  go_ret
                  exact ⟨by first | rfl | (simp [errW_none, errW_some] <;> rfl) | (simp [*, errW_none, errW_some] <;> rfl), by repeat (first | (with_reducible first | exact HB.out | apply below_alloc | apply pw_below_drewN | apply below_drew1) | exact HB.out)⟩
end Go.Proofs.YtgknoemegejlkaaDoor.P
end

section
namespace Go.Proofs.YtgknoemegejlkaaDoor.P
open Go.RowKit Go.Proofs.YtgknoemegejlkaaDoorW.PrintWords Go.Proofs.YtgknoemegejlkaaDoorW.PrintLast Go.Proofs.YtgknoemegejlkaaDoorW.PrintMore Go.Proofs.YtgknoemegejlkaaDoorM
attribute [local go_sem] max2_int min2_int max_two min_two max_three min_three max_four min_four   -- for this text's walks alone
set_option linter.unusedVariables false
set_option linter.unusedSimpArgs false
mutual
def spec_l6Parts.j0 : Nat → ByteArray → List (S112) → Bool → Option ((List (S112)) × Bool)
  | 0, _, _, _ => none
  | k + 1, x0, x4, x22 => if x22 = true then (some (x4, false)) else (spec_l6Parts.l0 k x0 x4 0)
def spec_l6Parts.l0 : Nat → ByteArray → List (S112) → Int → Option ((List (S112)) × Bool)
  | 0, _, _, _ => none
  | k + 1, x0, x4, x5 => if x5 < (x0.size : Int) then (if 0 ≤ x5 then ((spec_l1Digit.f (bt x0 x5)).bind fun t229 => (if t229 = true then (spec_l6Parts.l1 k x0 x4 x5 x5 0) else ((spec_l1Letter.f (bt x0 x5)).bind fun t234 => (if t234 = true then (spec_l6Parts.l2 k x0 x4 x5 x5) else (if (bt x0 x5) = 46 then (spec_l6Parts.l0 k x0 x4 (wrap64 (x5 + 1))) else (if (bt x0 x5) = 45 then (spec_l6Parts.l0 k x0 x4 (wrap64 (x5 + 1))) else (some (x4, false)))))))) else (none)) else (some (x4, true))
def spec_l6Parts.l1 : Nat → ByteArray → List (S112) → Int → Int → Int → Option ((List (S112)) × Bool)
  | 0, _, _, _, _, _ => none
  | k + 1, x0, x4, x5, x6, x7 => if x5 < (x0.size : Int) then (if 0 ≤ x5 then ((spec_l1Digit.f (bt x0 x5)).bind fun t230 => (spec_l6Parts.j3 k x0 x4 x5 x6 x7 t230)) else (none)) else (spec_l6Parts.j3 k x0 x4 x5 x6 x7 false)
def spec_l6Parts.j3 : Nat → ByteArray → List (S112) → Int → Int → Int → Bool → Option ((List (S112)) × Bool)
  | 0, _, _, _, _, _, _ => none
  | k + 1, x0, x4, x5, x6, x7, x44 => if x44 = true then (if 0 ≤ x5 then (if x5 < (x0.size : Int) then (if (wrap64 ((wrap64 (x5 + 1)) - x6)) > 15 then (some (x4, false)) else (spec_l6Parts.l1 k x0 x4 (wrap64 (x5 + 1)) x6 (wrap64 ((wrap64 (x7 * 10)) + (((bt x0 x5) - 48) % 256))))) else (none)) else (none)) else (if x4.length < 5864062014805 then (spec_l6Parts.l0 k x0 (x4 ++ [(⟨(⟨#[]⟩ : ByteArray), x7⟩ : S112)]) x5) else (none))
def spec_l6Parts.l2 : Nat → ByteArray → List (S112) → Int → Int → Option ((List (S112)) × Bool)
  | 0, _, _, _, _ => none
  | k + 1, x0, x4, x5, x6 => if x5 < (x0.size : Int) then (if 0 ≤ x5 then ((spec_l1Letter.f (bt x0 x5)).bind fun t235 => (if t235 = true then (spec_l6Parts.l2 k x0 x4 (wrap64 (x5 + 1)) x6) else (if 0 ≤ x6 then (if x6 ≤ x5 then (if x5 ≤ (x0.size : Int) then (if x4.length < 5864062014805 then (spec_l6Parts.l0 k x0 (x4 ++ [(⟨x0.extract (x6 : Int).toNat (x5 : Int).toNat, 0⟩ : S112)]) x5) else (none)) else (none)) else (none)) else (none)))) else (none)) else (if 0 ≤ x6 then (if x6 ≤ x5 then (if x5 ≤ (x0.size : Int) then (if x4.length < 5864062014805 then (spec_l6Parts.l0 k x0 (x4 ++ [(⟨x0.extract (x6 : Int).toNat (x5 : Int).toNat, 0⟩ : S112)]) x5) else (none)) else (none)) else (none)) else (none))
end
def spec_l6Parts.f (k : Nat) (a0 : ByteArray) : Option ((List (S112)) × Bool) := (some (([] : List (S112)) : List (S112))).bind fun y225 => (if (a0.size : Int) < 1 then (spec_l6Parts.j0 k a0 y225 true) else (if (a0.size : Int) > 30 then (spec_l6Parts.j0 k a0 y225 true) else (if 0 < (a0.size : Int) then ((spec_l1Digit.f (bt a0 0)).bind fun t228 => (spec_l6Parts.j0 k a0 y225 (!t228))) else (none))))
theorem spec_l6Parts.mono_l : ∀ k, (∀ y0 y1 y2, LeO (spec_l6Parts.j0 k y0 y1 y2) (spec_l6Parts.j0 (k + 1) y0 y1 y2)) ∧ (∀ y0 y1 y2, LeO (spec_l6Parts.l0 k y0 y1 y2) (spec_l6Parts.l0 (k + 1) y0 y1 y2)) ∧ (∀ y0 y1 y2 y3 y4, LeO (spec_l6Parts.l1 k y0 y1 y2 y3 y4) (spec_l6Parts.l1 (k + 1) y0 y1 y2 y3 y4)) ∧ (∀ y0 y1 y2 y3 y4 y5, LeO (spec_l6Parts.j3 k y0 y1 y2 y3 y4 y5) (spec_l6Parts.j3 (k + 1) y0 y1 y2 y3 y4 y5)) ∧ (∀ y0 y1 y2 y3, LeO (spec_l6Parts.l2 k y0 y1 y2 y3) (spec_l6Parts.l2 (k + 1) y0 y1 y2 y3))
  | 0 => ⟨fun _ _ _ r h => by simp [spec_l6Parts.j0] at h, fun _ _ _ r h => by simp [spec_l6Parts.l0] at h, fun _ _ _ _ _ r h => by simp [spec_l6Parts.l1] at h, fun _ _ _ _ _ _ r h => by simp [spec_l6Parts.j3] at h, fun _ _ _ _ r h => by simp [spec_l6Parts.l2] at h⟩
  | k + 1 => by
    obtain ⟨ih0, ih1, ih2, ih3, ih4⟩ := spec_l6Parts.mono_l k
    refine ⟨?_, ?_, ?_, ?_, ?_⟩
    · intro y0 y1 y2
      unfold spec_l6Parts.j0
      repeat' first
      | (with_reducible exact ih0 _ _ _)
      | (with_reducible exact ih1 _ _ _)
      | (with_reducible exact ih2 _ _ _ _ _)
      | (with_reducible exact ih3 _ _ _ _ _ _)
      | (with_reducible exact ih4 _ _ _ _)
      | (with_reducible exact LeO.refl _)
      | (with_reducible exact LeO.none _)
      | (with_reducible refine LeO.ite ?_ ?_)
      | (with_reducible refine LeO.bind ?_ (fun _ => ?_))
      | exact ih0 _ _ _
      | exact ih1 _ _ _
      | exact ih2 _ _ _ _ _
      | exact ih3 _ _ _ _ _ _
      | exact ih4 _ _ _ _
      | exact LeO.none _
      | refine LeO.ite ?_ ?_
      | refine LeO.bind ?_ (fun _ => ?_)
    · intro y0 y1 y2
      unfold spec_l6Parts.l0
      repeat' first
      | (with_reducible exact ih0 _ _ _)
      | (with_reducible exact ih1 _ _ _)
      | (with_reducible exact ih2 _ _ _ _ _)
      | (with_reducible exact ih3 _ _ _ _ _ _)
      | (with_reducible exact ih4 _ _ _ _)
      | (with_reducible exact LeO.refl _)
      | (with_reducible exact LeO.none _)
      | (with_reducible refine LeO.ite ?_ ?_)
      | (with_reducible refine LeO.bind ?_ (fun _ => ?_))
      | exact ih0 _ _ _
      | exact ih1 _ _ _
      | exact ih2 _ _ _ _ _
      | exact ih3 _ _ _ _ _ _
      | exact ih4 _ _ _ _
      | exact LeO.none _
      | refine LeO.ite ?_ ?_
      | refine LeO.bind ?_ (fun _ => ?_)
    · intro y0 y1 y2 y3 y4
      unfold spec_l6Parts.l1
      repeat' first
      | (with_reducible exact ih0 _ _ _)
      | (with_reducible exact ih1 _ _ _)
      | (with_reducible exact ih2 _ _ _ _ _)
      | (with_reducible exact ih3 _ _ _ _ _ _)
      | (with_reducible exact ih4 _ _ _ _)
      | (with_reducible exact LeO.refl _)
      | (with_reducible exact LeO.none _)
      | (with_reducible refine LeO.ite ?_ ?_)
      | (with_reducible refine LeO.bind ?_ (fun _ => ?_))
      | exact ih0 _ _ _
      | exact ih1 _ _ _
      | exact ih2 _ _ _ _ _
      | exact ih3 _ _ _ _ _ _
      | exact ih4 _ _ _ _
      | exact LeO.none _
      | refine LeO.ite ?_ ?_
      | refine LeO.bind ?_ (fun _ => ?_)
    · intro y0 y1 y2 y3 y4 y5
      unfold spec_l6Parts.j3
      repeat' first
      | (with_reducible exact ih0 _ _ _)
      | (with_reducible exact ih1 _ _ _)
      | (with_reducible exact ih2 _ _ _ _ _)
      | (with_reducible exact ih3 _ _ _ _ _ _)
      | (with_reducible exact ih4 _ _ _ _)
      | (with_reducible exact LeO.refl _)
      | (with_reducible exact LeO.none _)
      | (with_reducible refine LeO.ite ?_ ?_)
      | (with_reducible refine LeO.bind ?_ (fun _ => ?_))
      | exact ih0 _ _ _
      | exact ih1 _ _ _
      | exact ih2 _ _ _ _ _
      | exact ih3 _ _ _ _ _ _
      | exact ih4 _ _ _ _
      | exact LeO.none _
      | refine LeO.ite ?_ ?_
      | refine LeO.bind ?_ (fun _ => ?_)
    · intro y0 y1 y2 y3
      unfold spec_l6Parts.l2
      repeat' first
      | (with_reducible exact ih0 _ _ _)
      | (with_reducible exact ih1 _ _ _)
      | (with_reducible exact ih2 _ _ _ _ _)
      | (with_reducible exact ih3 _ _ _ _ _ _)
      | (with_reducible exact ih4 _ _ _ _)
      | (with_reducible exact LeO.refl _)
      | (with_reducible exact LeO.none _)
      | (with_reducible refine LeO.ite ?_ ?_)
      | (with_reducible refine LeO.bind ?_ (fun _ => ?_))
      | exact ih0 _ _ _
      | exact ih1 _ _ _
      | exact ih2 _ _ _ _ _
      | exact ih3 _ _ _ _ _ _
      | exact ih4 _ _ _ _
      | exact LeO.none _
      | refine LeO.ite ?_ ?_
      | refine LeO.bind ?_ (fun _ => ?_)
set_option maxHeartbeats 8000000 in
set_option maxRecDepth 100000 in
theorem spec_l6Parts.calls (k : Nat) (a0 : ByteArray) (r1 : List (S112)) (r2 : Bool) (w : World) (h : spec_l6Parts.f k a0 = some (r1, r2)) :
    Calls Tryd.prog 48 #[.string a0] w fun e w' => ∃ v0_ : Value, e = .returned (.tuple #[v0_, .bool r2]) ∧ Kd.R k112 112 w' w.heap.size (fun _ => True) v0_ r1 ∧ Below w.heap.size w w' := by
  have hu112 := Tryd.underlying112
  have HB := Aside0.mk (Below.refl w.heap.size w)
  have H : ((some (([] : List (S112)) : List (S112))).bind fun y225 => (if (a0.size : Int) < 1 then (spec_l6Parts.j0 k a0 y225 true) else (if (a0.size : Int) > 30 then (spec_l6Parts.j0 k a0 y225 true) else (if 0 < (a0.size : Int) then ((spec_l1Digit.f (bt a0 0)).bind fun t228 => (spec_l6Parts.j0 k a0 y225 (!t228))) else (none))))) = some (r1, r2) := h
  clear h
  obtain ⟨y225, hy225⟩ : ∃ y_ : List (S112), y_ = (([] : List (S112))) := ⟨_, rfl⟩
  replace H : (if (a0.size : Int) < 1 then (spec_l6Parts.j0 k a0 y225 true) else (if (a0.size : Int) > 30 then (spec_l6Parts.j0 k a0 y225 true) else (if 0 < (a0.size : Int) then ((spec_l1Digit.f (bt a0 0)).bind fun t228 => (spec_l6Parts.j0 k a0 y225 (!t228))) else (none)))) = some (r1, r2) := by first | (rw [hy225]; with_reducible exact H) | (have H2_ := (Option.bind_some _ _).symm.trans H; rw [hy225]; with_reducible exact H2_) | (have H2_ := (Option.bind_some _ _).symm.trans H; with_reducible exact H2_) | with_reducible exact H | (rw [hy225]; exact H) | exact H
  have Ny225 := Aside0.mk hy225
  clear hy225
  have HC2 := Aside0.mk H
  clear H
  go_enter Tryd.func48, Tryd.ntmps48
  go_upto_region 2 with (first | ((with_reducible refine gate_dst (N := 8) rfl ?_); (try (refine gate_guard (by rfl) ?_; dsimp only)); refine Kd.R_lit k112 _ 112 ?hg (N := 8) ?hd (xs := ([] : List (S112))) (inner := []) (ok := fun _ => True) (okp := fun _ => True) ?hr ?hp (fun _ hk => hk) trivial (Below.refl _ _) (Nat.le_refl _) (by simp) ?_; (case hd => rfl); (case hg => rfl); (case hr => first | (go_simp; done) | (go_simp; rfl)); (case hp => exact (Reps.none _ _)); intro v226 w3 ho4 hb hg_ hnew_; clear hg_ hnew_; (first | rw [← Ny225.out] at ho4 | (simp only [Int.reduceToNat] at ho4; rw [← Ny225.out] at ho4)); have n0_ := Aside0.mk (Kd.R_lower ho4 (below_size (by repeat (first | (with_reducible first | exact HB.out | apply below_alloc | apply pw_below_drewN | apply below_drew1) | exact HB.out)))); have n1_ := Aside0.mk (below_step (by repeat (first | (with_reducible first | exact HB.out | apply below_alloc | apply pw_below_drewN | apply below_drew1) | exact HB.out)) hb); clear HB; have HO227 := n0_; have HB := n1_; clear n0_ n1_; clear hb ho4))
  (try simp only [Act.put, List.setIfInBounds_toArray, List.set_cons_zero, List.set_cons_succ])
  go_cut [22] (fun v22 wc => ∃ (kq : Nat) (x22_1 : Bool), v22 = .bool x22_1 ∧ Aside0 (spec_l6Parts.j0 kq a0 y225 x22_1 = some (r1, r2)) ∧ Aside0 (kq ≤ k) ∧ Aside0 (Kd.R k112 112 wc w.heap.size (fun _ => True) v226 y225) ∧ Aside0 (Below w.heap.size w wc))
  case first =>
    have H := HC2.out
    clear HC2
    by_cases c5 : (a0.size : Int) < 1
    · rw [if_pos c5] at H
      have c5b0 : decide ((a0.size : Int) < 1) = true := decide_eq_true c5
      have c5b1 : decide (a0.size < 1) = true := decide_eq_true (by omega)
      clear c5
      (first | rw [c5b0] | (simp only [i64_w, i32_w]; rw [c5b0]) | skip)
      have H' := Aside0.mk H
      clear H
      go_wp2
      go_meet
      case rel => exact ⟨_, (true), (by first | rfl | (simp; done) | (simp [*]; done)), H', ⟨by first | omega | exact Nat.le_refl _⟩, ⟨by (with_reducible repeat (first | apply Kd.R_alloc | apply Kd.R_drewN | apply Kd.R_drew)); exact HO227.out⟩, ⟨by repeat (first | (with_reducible first | exact HB.out | apply below_alloc | apply pw_below_drewN | apply below_drew1) | exact HB.out)⟩⟩
    · rw [if_neg c5] at H
      have c5b0 : decide ((a0.size : Int) < 1) = false := decide_eq_false c5
      have c5b1 : decide (a0.size < 1) = false := decide_eq_false (by omega)
      clear c5
      (first | rw [c5b0] | (simp only [i64_w, i32_w]; rw [c5b0]) | skip)
      by_cases c6 : (a0.size : Int) > 30
      · rw [if_pos c6] at H
        have c6b0 : decide (30 < (a0.size : Int)) = true := decide_eq_true c6
        have c6b1 : decide (30 < a0.size) = true := decide_eq_true (by omega)
        clear c6
        have H' := Aside0.mk H
        clear H
        go_wp2
        go_meet
        case rel => exact ⟨_, (true), (by first | rfl | (simp; done) | (simp [*]; done)), H', ⟨by first | omega | exact Nat.le_refl _⟩, ⟨by (with_reducible repeat (first | apply Kd.R_alloc | apply Kd.R_drewN | apply Kd.R_drew)); exact HO227.out⟩, ⟨by repeat (first | (with_reducible first | exact HB.out | apply below_alloc | apply pw_below_drewN | apply below_drew1) | exact HB.out)⟩⟩
      · rw [if_neg c6] at H
        have c6b0 : decide (30 < (a0.size : Int)) = false := decide_eq_false c6
        have c6b1 : decide (30 < a0.size) = false := decide_eq_false (by omega)
        clear c6
        by_cases c7 : 0 < (a0.size : Int)
        · rw [if_pos c7] at H
          have c7b0 : decide (0 < (a0.size : Int)) = true := decide_eq_true c7
          have c7b1 : decide (0 < a0.size) = true := decide_eq_true (by omega)
          clear c7
          replace H := Option.bind_eq_some_iff.mp H
          obtain ⟨t228, A90, H⟩ := H
          replace H : (spec_l6Parts.j0 k a0 y225 (!t228)) = some (r1, r2) := H
          have A9 := Aside0.mk A90
          clear A90
          have H' := Aside0.mk H
          clear H
          have p8 : 0 ≤ (0 : Int) := (by omega)
          have q8 : 0 < a0.size := (by have : (0 : Int) < (a0.size : Int) := of_decide_eq_true (by first | (with_reducible assumption) | assumption); omega)
          have hx8 : ∀ h : 0 < a0.size, ((a0[0]'h).toNat : Int) = bt a0 0 := bt_at a0 0
          clear p8
          have qi8 : (0 < (a0.size : Int)) = True := eq_true (of_decide_eq_true (by first | (with_reducible assumption) | assumption))
          replace q8 := eq_true q8
          go_wp2_with (first | (go_at_call 85; (with_reducible refine (spec_l1Digit.calls (bt a0 0) t228 _ A9.out).mono ?_); rintro e w' ⟨rfl, ⟨nd, rfl⟩⟩))
          go_meet
          case rel => exact ⟨_, (!t228), (by first | rfl | (simp; done) | (simp [*]; done)), H', ⟨by first | omega | exact Nat.le_refl _⟩, ⟨by (with_reducible repeat (first | apply Kd.R_alloc | apply Kd.R_drewN | apply Kd.R_drew)); exact HO227.out⟩, ⟨by repeat (first | (with_reducible first | exact HB.out | apply below_alloc | apply pw_below_drewN | apply below_drew1) | exact HB.out)⟩⟩
        · rw [if_neg c7] at H
          exact absurd H (by simp)
  case rest =>
    clear HC2
    try clear p2
    try clear c4
    try clear c5
    try clear c5b0
    try clear c5b1
    try clear c6
    try clear c6b0
    try clear c6b1
    try clear c7
    try clear c7b0
    try clear c7b1
    try clear p8
    try clear q8
    try clear hx8
    try clear qi8
    try clear p8
    try clear q8
    obtain ⟨kq, x22_1, rfl, HA, HJ1, HO_4, HB⟩ := hcut
    cases kq with
    | zero => exact absurd HA.out (by simp [spec_l6Parts.j0])
    | succ kj1 =>
      have H := HA.out
      clear HA
      simp only [spec_l6Parts.j0] at H
      by_cases c10 : x22_1 = true
      · subst c10
        have H1 : (some (y225, false)) = some (r1, r2) := by rw [if_pos rfl] at H; exact H
        clear H
        have H := H1
        clear H1
        simp only [Option.some.injEq, Prod.mk.injEq] at H
        obtain ⟨rfl, rfl⟩ := H
        go_wp2
        go_ret2
        exact ⟨_, by first | rfl | (simp [errW_none, errW_some] <;> rfl) | (simp [*, errW_none, errW_some] <;> rfl), by (with_reducible repeat (first | apply Kd.R_alloc | apply Kd.R_drewN | apply Kd.R_drew)); exact HO_4.out, by repeat (first | (with_reducible first | exact HB.out | apply below_alloc | apply pw_below_drewN | apply below_drew1) | exact HB.out)⟩
      · replace c10 := Bool.eq_false_iff.mpr c10
        subst c10
        have H1 : (spec_l6Parts.l0 kj1 a0 y225 0) = some (r1, r2) := by rw [if_neg (show ¬ (false = true) by decide)] at H; exact H
        clear H
        have H := H1
        clear H1
        have H' := Aside0.mk H
        clear H
        go_wp2
        go_loopg [4, 5] kj1 (fun kq v4 v5 w' => ∃ (x4_2 : List (S112)) (x5_2 : Int), v5 = .int .i64 x5_2 ∧ Aside0 (spec_l6Parts.l0 kq a0 x4_2 x5_2 = some (r1, r2)) ∧ Aside0 (kq ≤ kj1) ∧ Aside0 (Kd.R k112 112 w' w.heap.size (fun _ => True) v4 x4_2) ∧ Aside0 (Below w.heap.size w w'))
        case atStart => exact ⟨(y225), (0), (by first | rfl | (simp; done) | (simp [*]; done)), H', ⟨Nat.le_refl _⟩, ⟨by (with_reducible repeat (first | apply Kd.R_alloc | apply Kd.R_drewN | apply Kd.R_drew)); exact HO_4.out⟩, ⟨by repeat (first | (with_reducible first | exact HB.out | apply below_alloc | apply pw_below_drewN | apply below_drew1) | exact HB.out)⟩⟩
        case round =>
          clear H'
          try clear c1
          try clear p2
          try clear c4
          try clear c5
          try clear c5b0
          try clear c5b1
          try clear c6
          try clear c6b0
          try clear c6b1
          try clear c7
          try clear c7b0
          try clear c7b1
          try clear p8
          try clear q8
          try clear hx8
          try clear qi8
          try clear c10
          try clear p2
          try clear p8
          try clear q8
          obtain ⟨x4_2, x5_2, rfl, HA, HK2, HO_4, HB⟩ := hrel
          cases gk with
          | zero => exact absurd HA.out (by simp [spec_l6Parts.l0])
          | succ k2 =>
            have H := HA.out
            clear HA
            simp only [spec_l6Parts.l0] at H
            by_cases c11 : x5_2 < (a0.size : Int)
            · rw [if_pos c11] at H
              have c11b0 : decide (x5_2 < (a0.size : Int)) = true := decide_eq_true c11
              clear c11
              by_cases c12 : 0 ≤ x5_2
              · rw [if_pos c12] at H
                have c12b0 : decide (0 ≤ x5_2) = true := decide_eq_true c12
                clear c12
                replace H := Option.bind_eq_some_iff.mp H
                obtain ⟨t229, A140, H⟩ := H
                replace H : (if t229 = true then (spec_l6Parts.l1 k2 a0 x4_2 x5_2 x5_2 0) else ((spec_l1Letter.f (bt a0 x5_2)).bind fun t234 => (if t234 = true then (spec_l6Parts.l2 k2 a0 x4_2 x5_2 x5_2) else (if (bt a0 x5_2) = 46 then (spec_l6Parts.l0 k2 a0 x4_2 (wrap64 (x5_2 + 1))) else (if (bt a0 x5_2) = 45 then (spec_l6Parts.l0 k2 a0 x4_2 (wrap64 (x5_2 + 1))) else (some (x4_2, false))))))) = some (r1, r2) := H
                have A14 := Aside0.mk A140
                clear A140
                by_cases c15 : t229 = true
                · subst c15
                  have H1 : (spec_l6Parts.l1 k2 a0 x4_2 x5_2 x5_2 0) = some (r1, r2) := by rw [if_pos rfl] at H; exact H
                  clear H
                  have H := H1
                  clear H1
                  have H' := Aside0.mk H
                  clear H
                  have p13 : 0 ≤ (x5_2 : Int) := of_decide_eq_true (by first | (with_reducible assumption) | assumption)
                  have q13 : x5_2 < (a0.size : Int) := of_decide_eq_true (by first | (with_reducible assumption) | assumption)
                  have hx13 := bt_at a0 x5_2
                  replace p13 := eq_true p13
                  replace q13 := eq_true q13
                  go_wp2_with (first | ((with_reducible refine gate_callee (f := 85) rfl ?_); refine goesL_ (some 34) rfl rfl Tryd.func85 (by kernel_rfl) rfl #[.int .u8 (bt a0 x5_2)] rfl (by (try simp only [List.map_toArray, List.map_cons, List.map_nil]); first | done | rfl | (simp only [List.length_drop, List.length_take]; rfl)) ?_; (with_reducible refine (spec_l1Digit.calls (bt a0 x5_2) true _ A14.out).mono ?_); rintro e w' ⟨rfl, ⟨nd, rfl⟩⟩; refine ⟨_, rfl, ?_⟩))
                  go_loopg [5, 7] k2 (fun kq v5 v7 w' => ∃ (x5_3 : Int) (x7_3 : Int), v5 = .int .i64 x5_3 ∧ v7 = .int .i64 x7_3 ∧ Aside0 (spec_l6Parts.l1 kq a0 x4_2 x5_3 x5_2 x7_3 = some (r1, r2)) ∧ Aside0 (kq ≤ k2) ∧ Aside0 (Kd.R k112 112 w' w.heap.size (fun _ => True) u4 x4_2) ∧ Aside0 (Below w.heap.size w w'))
                  case atStart => exact ⟨(x5_2), (0), (by first | rfl | (simp; done) | (simp [*]; done)), (by first | rfl | (simp; done) | (simp [*]; done)), H', ⟨Nat.le_refl _⟩, ⟨by (with_reducible repeat (first | apply Kd.R_alloc | apply Kd.R_drewN | apply Kd.R_drew)); exact HO_4.out⟩, ⟨by repeat (first | (with_reducible first | exact HB.out | apply below_alloc | apply pw_below_drewN | apply below_drew1) | exact HB.out)⟩⟩
                  case round =>
                    clear H'
                    try clear c1
                    try clear p1
                    try clear q1
                    try clear hx1
                    try clear p2
                    try clear c4
                    try clear c5
                    try clear c5b0
                    try clear c5b1
                    try clear c6
                    try clear c6b0
                    try clear c6b1
                    try clear p6
                    try clear c7
                    try clear c7b0
                    try clear c7b1
                    try clear c8
                    try clear p8
                    try clear q8
                    try clear hx8
                    try clear qi8
                    try clear c10
                    try clear c11
                    try clear c11b0
                    try clear c12
                    try clear c12b0
                    try clear p13
                    try clear q13
                    try clear hx13
                    try clear c15
                    try clear p13
                    try clear p2
                    try clear p8
                    try clear q13
                    try clear q8
                    obtain ⟨x5_3, x7_3, rfl, rfl, HA, HK3, HO_4, HB⟩ := hrel
                    cases gk with
                    | zero => exact absurd HA.out (by simp [spec_l6Parts.l1])
                    | succ k3 =>
                      have H := HA.out
                      clear HA
                      simp only [spec_l6Parts.l1] at H
                      have HC16 := Aside0.mk H
                      clear H
                      go_upto_region 10 with (fail)
                      go_cut [44] (fun v44 wc => ∃ (kq : Nat) (x44_15 : Bool), v44 = .bool x44_15 ∧ Aside0 (spec_l6Parts.j3 kq a0 x4_2 x5_3 x5_2 x7_3 x44_15 = some (r1, r2)) ∧ Aside0 (kq ≤ k3) ∧ Aside0 (Kd.R k112 112 wc w.heap.size (fun _ => True) u4 x4_2) ∧ Aside0 (Below w.heap.size w wc))
                      case first =>
                        have H := HC16.out
                        clear HC16
                        by_cases c17 : x5_3 < (a0.size : Int)
                        · rw [if_pos c17] at H
                          have c17b0 : decide (x5_3 < (a0.size : Int)) = true := decide_eq_true c17
                          clear c17
                          (first | rw [c17b0] | (simp only [i64_w, i32_w]; rw [c17b0]) | skip)
                          by_cases c18 : 0 ≤ x5_3
                          · rw [if_pos c18] at H
                            have c18b0 : decide (0 ≤ x5_3) = true := decide_eq_true c18
                            clear c18
                            replace H := Option.bind_eq_some_iff.mp H
                            obtain ⟨t230, A200, H⟩ := H
                            replace H : (spec_l6Parts.j3 k3 a0 x4_2 x5_3 x5_2 x7_3 t230) = some (r1, r2) := H
                            have A20 := Aside0.mk A200
                            clear A200
                            have H' := Aside0.mk H
                            clear H
                            have p19 : 0 ≤ (x5_3 : Int) := of_decide_eq_true (by first | (with_reducible assumption) | assumption)
                            have q19 : x5_3 < (a0.size : Int) := of_decide_eq_true (by first | (with_reducible assumption) | assumption)
                            have hx19 := bt_at a0 x5_3
                            replace p19 := eq_true p19
                            replace q19 := eq_true q19
                            go_wp2_with (first | (go_at_call 85; (with_reducible refine (spec_l1Digit.calls (bt a0 x5_3) t230 _ A20.out).mono ?_); rintro e w' ⟨rfl, ⟨nd, rfl⟩⟩))
                            go_meet
                            case rel => exact ⟨_, (t230), (by first | rfl | (simp; done) | (simp [*]; done)), H', ⟨by have := HJ1.out; have := HK2.out; have := HK3.out; first | omega | exact Nat.le_refl _⟩, ⟨by (with_reducible repeat (first | apply Kd.R_alloc | apply Kd.R_drewN | apply Kd.R_drew)); exact HO_4.out⟩, ⟨by repeat (first | (with_reducible first | exact HB.out | apply below_alloc | apply pw_below_drewN | apply below_drew1) | exact HB.out)⟩⟩
                          · rw [if_neg c18] at H
                            exact absurd H (by simp)
                        · rw [if_neg c17] at H
                          have c17b0 : decide (x5_3 < (a0.size : Int)) = false := decide_eq_false c17
                          clear c17
                          (first | rw [c17b0] | (simp only [i64_w, i32_w]; rw [c17b0]) | skip)
                          have H' := Aside0.mk H
                          clear H
                          go_wp2
                          go_meet
                          case rel => exact ⟨_, (false), (by first | rfl | (simp; done) | (simp [*]; done)), H', ⟨by have := HJ1.out; have := HK2.out; have := HK3.out; first | omega | exact Nat.le_refl _⟩, ⟨by (with_reducible repeat (first | apply Kd.R_alloc | apply Kd.R_drewN | apply Kd.R_drew)); exact HO_4.out⟩, ⟨by repeat (first | (with_reducible first | exact HB.out | apply below_alloc | apply pw_below_drewN | apply below_drew1) | exact HB.out)⟩⟩
                      case rest =>
                        clear HC16
                        try clear c1
                        try clear p1
                        try clear q1
                        try clear hx1
                        try clear p2
                        try clear c4
                        try clear c5
                        try clear c5b0
                        try clear c5b1
                        try clear c6
                        try clear c6b0
                        try clear c6b1
                        try clear p6
                        try clear c7
                        try clear c7b0
                        try clear c7b1
                        try clear c8
                        try clear p8
                        try clear q8
                        try clear hx8
                        try clear qi8
                        try clear c10
                        try clear c11
                        try clear c11b0
                        try clear c12
                        try clear c12b0
                        try clear p13
                        try clear q13
                        try clear hx13
                        try clear c15
                        try clear c17
                        try clear c17b0
                        try clear c18
                        try clear c18b0
                        try clear p19
                        try clear q19
                        try clear hx19
                        try clear p1
                        try clear p13
                        try clear p19
                        try clear p2
                        try clear p6
                        try clear p8
                        try clear q1
                        try clear q13
                        try clear q19
                        try clear q8
                        obtain ⟨kq, x44_15, rfl, HA, HJ15, HO_4, HB⟩ := hcut
                        cases kq with
                        | zero => exact absurd HA.out (by simp [spec_l6Parts.j3])
                        | succ kj15 =>
                          have H := HA.out
                          clear HA
                          simp only [spec_l6Parts.j3] at H
                          by_cases c21 : x44_15 = true
                          · subst c21
                            have H1 : (if 0 ≤ x5_3 then (if x5_3 < (a0.size : Int) then (if (wrap64 ((wrap64 (x5_3 + 1)) - x5_2)) > 15 then (some (x4_2, false)) else (spec_l6Parts.l1 kj15 a0 x4_2 (wrap64 (x5_3 + 1)) x5_2 (wrap64 ((wrap64 (x7_3 * 10)) + (((bt a0 x5_3) - 48) % 256))))) else (none)) else (none)) = some (r1, r2) := by rw [if_pos rfl] at H; exact H
                            clear H
                            have H := H1
                            clear H1
                            by_cases c22 : 0 ≤ x5_3
                            · rw [if_pos c22] at H
                              have c22b0 : decide (0 ≤ x5_3) = true := decide_eq_true c22
                              clear c22
                              by_cases c23 : x5_3 < (a0.size : Int)
                              · rw [if_pos c23] at H
                                have c23b0 : decide (x5_3 < (a0.size : Int)) = true := decide_eq_true c23
                                clear c23
                                by_cases c25 : (wrap64 ((wrap64 (x5_3 + 1)) - x5_2)) > 15
                                · rw [if_pos c25] at H
                                  have c25b0 : decide (15 < (wrap64 ((wrap64 (x5_3 + 1)) - x5_2))) = true := decide_eq_true c25
                                  clear c25
                                  simp only [Option.some.injEq, Prod.mk.injEq] at H
                                  obtain ⟨rfl, rfl⟩ := H
                                  have p24 : 0 ≤ (x5_3 : Int) := of_decide_eq_true (by first | (with_reducible assumption) | assumption)
                                  have q24 : x5_3 < (a0.size : Int) := of_decide_eq_true (by first | (with_reducible assumption) | assumption)
                                  have hx24 := bt_at a0 x5_3
                                  replace p24 := eq_true p24
                                  replace q24 := eq_true q24
                                  go_wp2
                                  go_ret2
                                  exact ⟨_, by first | rfl | (simp [errW_none, errW_some] <;> rfl) | (simp [*, errW_none, errW_some] <;> rfl), by (with_reducible repeat (first | apply Kd.R_alloc | apply Kd.R_drewN | apply Kd.R_drew)); exact HO_4.out, by repeat (first | (with_reducible first | exact HB.out | apply below_alloc | apply pw_below_drewN | apply below_drew1) | exact HB.out)⟩
                                · rw [if_neg c25] at H
                                  have c25b0 : decide (15 < (wrap64 ((wrap64 (x5_3 + 1)) - x5_2))) = false := decide_eq_false c25
                                  clear c25
                                  have H' := Aside0.mk H
                                  clear H
                                  have p24 : 0 ≤ (x5_3 : Int) := of_decide_eq_true (by first | (with_reducible assumption) | assumption)
                                  have q24 : x5_3 < (a0.size : Int) := of_decide_eq_true (by first | (with_reducible assumption) | assumption)
                                  have hx24 := bt_at a0 x5_3
                                  replace p24 := eq_true p24
                                  replace q24 := eq_true q24
                                  go_wp2
                                  go_roundg kj15
                                  case measure => have := HJ1.out; have := HK2.out; have := HK3.out; have := HJ15.out; omega
                                  case rel => exact ⟨(wrap64 (x5_3 + 1)), (wrap64 ((wrap64 (x7_3 * 10)) + (((bt a0 x5_3) - 48) % 256))), (by first | rfl | (simp; done) | (simp [*]; done)), (by first | rfl | (simp; done) | (simp [*]; done)), H', ⟨by have := HJ1.out; have := HK2.out; have := HK3.out; have := HJ15.out; omega⟩, ⟨by (with_reducible repeat (first | apply Kd.R_alloc | apply Kd.R_drewN | apply Kd.R_drew)); exact HO_4.out⟩, ⟨by repeat (first | (with_reducible first | exact HB.out | apply below_alloc | apply pw_below_drewN | apply below_drew1) | exact HB.out)⟩⟩
                              · rw [if_neg c23] at H
                                exact absurd H (by simp)
                            · rw [if_neg c22] at H
                              exact absurd H (by simp)
                          · replace c21 := Bool.eq_false_iff.mpr c21
                            subst c21
                            have H1 : (if x4_2.length < 5864062014805 then (spec_l6Parts.l0 kj15 a0 (x4_2 ++ [(⟨(⟨#[]⟩ : ByteArray), x7_3⟩ : S112)]) x5_3) else (none)) = some (r1, r2) := by rw [if_neg (show ¬ (false = true) by decide)] at H; exact H
                            clear H
                            have H := H1
                            clear H1
                            by_cases c26 : x4_2.length < 5864062014805
                            · rw [if_pos c26] at H
                              have LMc26 := Aside0.mk c26
                              clear c26
                              obtain ⟨y231, hy231⟩ : ∃ y_ : List (S112), y_ = (x4_2 ++ [(⟨(⟨#[]⟩ : ByteArray), x7_3⟩ : S112)]) := ⟨_, rfl⟩
                              replace H : (spec_l6Parts.l0 kj15 a0 y231 x5_3) = some (r1, r2) := by first | (rw [hy231]; with_reducible exact H) | (have H2_ := (Option.bind_some _ _).symm.trans H; rw [hy231]; with_reducible exact H2_) | (have H2_ := (Option.bind_some _ _).symm.trans H; with_reducible exact H2_) | with_reducible exact H | (rw [hy231]; exact H) | exact H
                              have Ny231 := Aside0.mk hy231
                              clear hy231
                              have H' := Aside0.mk H
                              clear H
                              go_wp2_with (first | ((with_reducible refine gate_builtin (b := .append) (xs := #[.tmp 60, .tmp 63]) rfl ?_); (try (refine gate_guard (by rfl) ?_; dsimp only)); at_builtin; refine Kd.R_append k112 (w0 := w) w.heap.size rfl (.tmp 60) (.tmp 63) 67 112 (.agg #[(.string ⟨#[]⟩), (.int .i64 0)]) 24 rfl Tryd.underlying67 info112 rfl (by decide) (by omega) u4 x4_2 (⟨(⟨#[]⟩ : ByteArray), x7_3⟩ : S112) [.string (⟨#[]⟩ : ByteArray), .int .i64 x7_3] (fun _ => True) (fun _ => False) rfl rfl ?aP (fun _ hk => hk.elim) ?aF ?aO ?aB ?aS ?aL ?_; (case aP => exact k112_mkM _ _ _ (⟨(⟨#[]⟩ : ByteArray), x7_3⟩ : S112)); (case aB => exact (by repeat (first | (with_reducible first | exact HB.out | apply below_alloc | apply pw_below_drewN | apply below_drew1) | exact HB.out))); (case aF => exact (fun _ _ => trivial)); (case aO => exact (by (with_reducible repeat (first | apply Kd.R_alloc | apply Kd.R_drewN | apply Kd.R_drew)); exact HO_4.out)); (case aS => exact (below_size (by repeat (first | (with_reducible first | exact HB.out | apply below_alloc | apply pw_below_drewN | apply below_drew1) | exact HB.out)))); (case aL => have := LMc26.out; omega); intro v232 w27 ho hb hg hat; rw [← Ny231.out] at ho; have n0_ := Aside0.mk (hb); have n1_ := Aside0.mk (ho); clear HB; clear HO_4; have HB := n0_; have HO233 := n1_; clear n0_ n1_; clear ho hb hg hat))
                              go_roundg kj15
                              case measure => have := HJ1.out; have := HK2.out; have := HK3.out; have := HJ15.out; omega
                              case rel => exact ⟨(y231), (x5_3), (by first | rfl | (simp; done) | (simp [*]; done)), H', ⟨by have := HJ1.out; have := HK2.out; have := HK3.out; have := HJ15.out; omega⟩, ⟨by (with_reducible repeat (first | apply Kd.R_alloc | apply Kd.R_drewN | apply Kd.R_drew)); exact HO233.out⟩, ⟨by repeat (first | (with_reducible first | exact HB.out | apply below_alloc | apply pw_below_drewN | apply below_drew1) | exact HB.out)⟩⟩
                            · rw [if_neg c26] at H
                              exact absurd H (by simp)
                · replace c15 := Bool.eq_false_iff.mpr c15
                  subst c15
                  have H1 : ((spec_l1Letter.f (bt a0 x5_2)).bind fun t234 => (if t234 = true then (spec_l6Parts.l2 k2 a0 x4_2 x5_2 x5_2) else (if (bt a0 x5_2) = 46 then (spec_l6Parts.l0 k2 a0 x4_2 (wrap64 (x5_2 + 1))) else (if (bt a0 x5_2) = 45 then (spec_l6Parts.l0 k2 a0 x4_2 (wrap64 (x5_2 + 1))) else (some (x4_2, false)))))) = some (r1, r2) := by rw [if_neg (show ¬ (false = true) by decide)] at H; exact H
                  clear H
                  have H := H1
                  clear H1
                  replace H := Option.bind_eq_some_iff.mp H
                  obtain ⟨t234, A290, H⟩ := H
                  replace H : (if t234 = true then (spec_l6Parts.l2 k2 a0 x4_2 x5_2 x5_2) else (if (bt a0 x5_2) = 46 then (spec_l6Parts.l0 k2 a0 x4_2 (wrap64 (x5_2 + 1))) else (if (bt a0 x5_2) = 45 then (spec_l6Parts.l0 k2 a0 x4_2 (wrap64 (x5_2 + 1))) else (some (x4_2, false))))) = some (r1, r2) := H
                  have A29 := Aside0.mk A290
                  clear A290
                  by_cases c30 : t234 = true
                  · subst c30
                    have H1 : (spec_l6Parts.l2 k2 a0 x4_2 x5_2 x5_2) = some (r1, r2) := by rw [if_pos rfl] at H; exact H
                    clear H
                    have H := H1
                    clear H1
                    have H' := Aside0.mk H
                    clear H
                    have p13 : 0 ≤ (x5_2 : Int) := of_decide_eq_true (by first | (with_reducible assumption) | assumption)
                    have q13 : x5_2 < (a0.size : Int) := of_decide_eq_true (by first | (with_reducible assumption) | assumption)
                    have hx13 := bt_at a0 x5_2
                    replace p13 := eq_true p13
                    replace q13 := eq_true q13
                    go_wp2_with (first | ((with_reducible refine gate_callee (f := 85) rfl ?_); refine goesL_ (some 34) rfl rfl Tryd.func85 (by kernel_rfl) rfl #[.int .u8 (bt a0 x5_2)] rfl (by (try simp only [List.map_toArray, List.map_cons, List.map_nil]); first | done | rfl | (simp only [List.length_drop, List.length_take]; rfl)) ?_; (with_reducible refine (spec_l1Digit.calls (bt a0 x5_2) false _ A14.out).mono ?_); rintro e w' ⟨rfl, ⟨nd, rfl⟩⟩; refine ⟨_, rfl, ?_⟩; have p28 : 0 ≤ (x5_2 : Int) := of_decide_eq_true (by first | (with_reducible assumption) | assumption); have q28 : x5_2 < (a0.size : Int) := of_decide_eq_true (by first | (with_reducible assumption) | assumption); have hx28 := bt_at a0 x5_2; replace p28 := eq_true p28; replace q28 := eq_true q28) | ((with_reducible refine gate_callee (f := 86) rfl ?_); refine goesL_ (some 69) rfl rfl Tryd.func86 (by kernel_rfl) rfl #[.int .u8 (bt a0 x5_2)] rfl (by (try simp only [List.map_toArray, List.map_cons, List.map_nil]); first | done | rfl | (simp only [List.length_drop, List.length_take]; rfl)) ?_; (with_reducible refine (spec_l1Letter.calls (bt a0 x5_2) true _ A29.out).mono ?_); rintro e w' ⟨rfl, ⟨nd, rfl⟩⟩; refine ⟨_, rfl, ?_⟩))
                    go_loopg [5] k2 (fun kq v5 w' => ∃ (x5_3 : Int), v5 = .int .i64 x5_3 ∧ Aside0 (spec_l6Parts.l2 kq a0 x4_2 x5_3 x5_2 = some (r1, r2)) ∧ Aside0 (kq ≤ k2) ∧ Aside0 (Kd.R k112 112 w' w.heap.size (fun _ => True) u4 x4_2) ∧ Aside0 (Below w.heap.size w w'))
                    case atStart => exact ⟨(x5_2), (by first | rfl | (simp; done) | (simp [*]; done)), H', ⟨Nat.le_refl _⟩, ⟨by (with_reducible repeat (first | apply Kd.R_alloc | apply Kd.R_drewN | apply Kd.R_drew)); exact HO_4.out⟩, ⟨by repeat (first | (with_reducible first | exact HB.out | apply below_alloc | apply pw_below_drewN | apply below_drew1) | exact HB.out)⟩⟩
                    case round =>
                      clear H'
                      try clear c1
                      try clear p1
                      try clear q1
                      try clear hx1
                      try clear c2
                      try clear p2
                      try clear q2
                      try clear hx2
                      try clear c3
                      try clear c4
                      try clear c5
                      try clear c5b0
                      try clear c5b1
                      try clear c6
                      try clear c6b0
                      try clear c6b1
                      try clear p6
                      try clear c7
                      try clear c7b0
                      try clear c7b1
                      try clear c8
                      try clear p8
                      try clear q8
                      try clear hx8
                      try clear qi8
                      try clear c10
                      try clear c11
                      try clear c11b0
                      try clear c12
                      try clear c12b0
                      try clear p13
                      try clear q13
                      try clear hx13
                      try clear c15
                      try clear c17
                      try clear c17b0
                      try clear c18
                      try clear c18b0
                      try clear p19
                      try clear q19
                      try clear hx19
                      try clear c21
                      try clear c22
                      try clear c22b0
                      try clear c23
                      try clear c23b0
                      try clear p24
                      try clear q24
                      try clear hx24
                      try clear c25
                      try clear c25b0
                      try clear c26
                      try clear p28
                      try clear q28
                      try clear hx28
                      try clear c30
                      try clear p1
                      try clear p13
                      try clear p19
                      try clear p2
                      try clear p24
                      try clear p28
                      try clear p6
                      try clear p8
                      try clear q1
                      try clear q13
                      try clear q19
                      try clear q24
                      try clear q28
                      try clear q8
                      obtain ⟨x5_3, rfl, HA, HK3, HO_4, HB⟩ := hrel
                      cases gk with
                      | zero => exact absurd HA.out (by simp [spec_l6Parts.l2])
                      | succ k3 =>
                        have H := HA.out
                        clear HA
                        simp only [spec_l6Parts.l2] at H
                        by_cases c31 : x5_3 < (a0.size : Int)
                        · rw [if_pos c31] at H
                          have c31b0 : decide (x5_3 < (a0.size : Int)) = true := decide_eq_true c31
                          clear c31
                          by_cases c32 : 0 ≤ x5_3
                          · rw [if_pos c32] at H
                            have c32b0 : decide (0 ≤ x5_3) = true := decide_eq_true c32
                            clear c32
                            replace H := Option.bind_eq_some_iff.mp H
                            obtain ⟨t235, A340, H⟩ := H
                            replace H : (if t235 = true then (spec_l6Parts.l2 k3 a0 x4_2 (wrap64 (x5_3 + 1)) x5_2) else (if 0 ≤ x5_2 then (if x5_2 ≤ x5_3 then (if x5_3 ≤ (a0.size : Int) then (if x4_2.length < 5864062014805 then (spec_l6Parts.l0 k3 a0 (x4_2 ++ [(⟨a0.extract (x5_2 : Int).toNat (x5_3 : Int).toNat, 0⟩ : S112)]) x5_3) else (none)) else (none)) else (none)) else (none))) = some (r1, r2) := H
                            have A34 := Aside0.mk A340
                            clear A340
                            by_cases c35 : t235 = true
                            · subst c35
                              have H1 : (spec_l6Parts.l2 k3 a0 x4_2 (wrap64 (x5_3 + 1)) x5_2) = some (r1, r2) := by rw [if_pos rfl] at H; exact H
                              clear H
                              have H := H1
                              clear H1
                              have H' := Aside0.mk H
                              clear H
                              have p33 : 0 ≤ (x5_3 : Int) := of_decide_eq_true (by first | (with_reducible assumption) | assumption)
                              have q33 : x5_3 < (a0.size : Int) := of_decide_eq_true (by first | (with_reducible assumption) | assumption)
                              have hx33 := bt_at a0 x5_3
                              replace p33 := eq_true p33
                              replace q33 := eq_true q33
                              go_wp2_with (first | (go_at_call 86; (with_reducible refine (spec_l1Letter.calls (bt a0 x5_3) true _ A34.out).mono ?_); rintro e w' ⟨rfl, ⟨nd, rfl⟩⟩))
                              go_roundg k3
                              case measure => have := HJ1.out; have := HK2.out; have := HK3.out; omega
                              case rel => exact ⟨(wrap64 (x5_3 + 1)), (by first | rfl | (simp; done) | (simp [*]; done)), H', ⟨by have := HJ1.out; have := HK2.out; have := HK3.out; omega⟩, ⟨by (with_reducible repeat (first | apply Kd.R_alloc | apply Kd.R_drewN | apply Kd.R_drew)); exact HO_4.out⟩, ⟨by repeat (first | (with_reducible first | exact HB.out | apply below_alloc | apply pw_below_drewN | apply below_drew1) | exact HB.out)⟩⟩
                            · replace c35 := Bool.eq_false_iff.mpr c35
                              subst c35
                              have H1 : (if 0 ≤ x5_2 then (if x5_2 ≤ x5_3 then (if x5_3 ≤ (a0.size : Int) then (if x4_2.length < 5864062014805 then (spec_l6Parts.l0 k3 a0 (x4_2 ++ [(⟨a0.extract (x5_2 : Int).toNat (x5_3 : Int).toNat, 0⟩ : S112)]) x5_3) else (none)) else (none)) else (none)) else (none)) = some (r1, r2) := by rw [if_neg (show ¬ (false = true) by decide)] at H; exact H
                              clear H
                              have H := H1
                              clear H1
                              by_cases c36 : 0 ≤ x5_2
                              · rw [if_pos c36] at H
                                have c36b0 := eq_true c36
                                have c36b1 : decide (0 ≤ x5_2) = true := decide_eq_true c36
                                clear c36
                                by_cases c37 : x5_2 ≤ x5_3
                                · rw [if_pos c37] at H
                                  have c37b0 := eq_true c37
                                  have c37b1 : decide (x5_2 ≤ x5_3) = true := decide_eq_true c37
                                  clear c37
                                  by_cases c38 : x5_3 ≤ (a0.size : Int)
                                  · rw [if_pos c38] at H
                                    have c38b0 := eq_true c38
                                    have c38b1 : decide (x5_3 ≤ (a0.size : Int)) = true := decide_eq_true c38
                                    clear c38
                                    by_cases c39 : x4_2.length < 5864062014805
                                    · rw [if_pos c39] at H
                                      have LMc39 := Aside0.mk c39
                                      clear c39
                                      obtain ⟨y236, hy236⟩ : ∃ y_ : List (S112), y_ = (x4_2 ++ [(⟨a0.extract (x5_2 : Int).toNat (x5_3 : Int).toNat, 0⟩ : S112)]) := ⟨_, rfl⟩
                                      replace H : (spec_l6Parts.l0 k3 a0 y236 x5_3) = some (r1, r2) := by first | (rw [hy236]; with_reducible exact H) | (have H2_ := (Option.bind_some _ _).symm.trans H; rw [hy236]; with_reducible exact H2_) | (have H2_ := (Option.bind_some _ _).symm.trans H; with_reducible exact H2_) | with_reducible exact H | (rw [hy236]; exact H) | exact H
                                      have Ny236 := Aside0.mk hy236
                                      clear hy236
                                      have H' := Aside0.mk H
                                      clear H
                                      have p33 : 0 ≤ (x5_3 : Int) := of_decide_eq_true (by first | (with_reducible assumption) | assumption)
                                      have q33 : x5_3 < (a0.size : Int) := of_decide_eq_true (by first | (with_reducible assumption) | assumption)
                                      have hx33 := bt_at a0 x5_3
                                      replace p33 := eq_true p33
                                      replace q33 := eq_true q33
                                      go_wp2_with (first | (go_at_call 86; (with_reducible refine (spec_l1Letter.calls (bt a0 x5_3) false _ A34.out).mono ?_); rintro e w' ⟨rfl, ⟨nd, rfl⟩⟩) | ((with_reducible refine gate_builtin (b := .append) (xs := #[.tmp 82, .tmp 88]) rfl ?_); (try (refine gate_guard (by rfl) ?_; dsimp only)); at_builtin; refine Kd.R_append k112 (w0 := w) w.heap.size rfl (.tmp 82) (.tmp 88) 67 112 (.agg #[(.string ⟨#[]⟩), (.int .i64 0)]) 24 rfl Tryd.underlying67 info112 rfl (by decide) (by omega) u4 x4_2 (⟨a0.extract (x5_2 : Int).toNat (x5_3 : Int).toNat, 0⟩ : S112) [.string (a0.extract (x5_2 : Int).toNat (x5_3 : Int).toNat), .int .i64 0] (fun _ => True) (fun _ => False) rfl rfl ?aP (fun _ hk => hk.elim) ?aF ?aO ?aB ?aS ?aL ?_; (case aP => exact k112_mkM _ _ _ (⟨a0.extract (x5_2 : Int).toNat (x5_3 : Int).toNat, 0⟩ : S112)); (case aB => exact (by repeat (first | (with_reducible first | exact HB.out | apply below_alloc | apply pw_below_drewN | apply below_drew1) | exact HB.out))); (case aF => exact (fun _ _ => trivial)); (case aO => exact (by (with_reducible repeat (first | apply Kd.R_alloc | apply Kd.R_drewN | apply Kd.R_drew)); exact HO_4.out)); (case aS => exact (below_size (by repeat (first | (with_reducible first | exact HB.out | apply below_alloc | apply pw_below_drewN | apply below_drew1) | exact HB.out)))); (case aL => have := LMc39.out; omega); intro v237 w40 ho hb hg hat; rw [← Ny236.out] at ho; have n0_ := Aside0.mk (hb); have n1_ := Aside0.mk (ho); clear HB; clear HO_4; have HB := n0_; have HO238 := n1_; clear n0_ n1_; clear ho hb hg hat))
                                      go_roundg k3
                                      case measure => have := HJ1.out; have := HK2.out; have := HK3.out; omega
                                      case rel => exact ⟨(y236), (x5_3), (by first | rfl | (simp; done) | (simp [*]; done)), H', ⟨by have := HJ1.out; have := HK2.out; have := HK3.out; omega⟩, ⟨by (with_reducible repeat (first | apply Kd.R_alloc | apply Kd.R_drewN | apply Kd.R_drew)); exact HO238.out⟩, ⟨by repeat (first | (with_reducible first | exact HB.out | apply below_alloc | apply pw_below_drewN | apply below_drew1) | exact HB.out)⟩⟩
                                    · rw [if_neg c39] at H
                                      exact absurd H (by simp)
                                  · rw [if_neg c38] at H
                                    exact absurd H (by simp)
                                · rw [if_neg c37] at H
                                  exact absurd H (by simp)
                              · rw [if_neg c36] at H
                                exact absurd H (by simp)
                          · rw [if_neg c32] at H
                            exact absurd H (by simp)
                        · rw [if_neg c31] at H
                          have c31b0 : decide (x5_3 < (a0.size : Int)) = false := decide_eq_false c31
                          clear c31
                          by_cases c41 : 0 ≤ x5_2
                          · rw [if_pos c41] at H
                            have c41b0 := eq_true c41
                            have c41b1 : decide (0 ≤ x5_2) = true := decide_eq_true c41
                            clear c41
                            by_cases c42 : x5_2 ≤ x5_3
                            · rw [if_pos c42] at H
                              have c42b0 := eq_true c42
                              have c42b1 : decide (x5_2 ≤ x5_3) = true := decide_eq_true c42
                              clear c42
                              by_cases c43 : x5_3 ≤ (a0.size : Int)
                              · rw [if_pos c43] at H
                                have c43b0 := eq_true c43
                                have c43b1 : decide (x5_3 ≤ (a0.size : Int)) = true := decide_eq_true c43
                                clear c43
                                by_cases c44 : x4_2.length < 5864062014805
                                · rw [if_pos c44] at H
                                  have LMc44 := Aside0.mk c44
                                  clear c44
                                  obtain ⟨y239, hy239⟩ : ∃ y_ : List (S112), y_ = (x4_2 ++ [(⟨a0.extract (x5_2 : Int).toNat (x5_3 : Int).toNat, 0⟩ : S112)]) := ⟨_, rfl⟩
                                  replace H : (spec_l6Parts.l0 k3 a0 y239 x5_3) = some (r1, r2) := by first | (rw [hy239]; with_reducible exact H) | (have H2_ := (Option.bind_some _ _).symm.trans H; rw [hy239]; with_reducible exact H2_) | (have H2_ := (Option.bind_some _ _).symm.trans H; with_reducible exact H2_) | with_reducible exact H | (rw [hy239]; exact H) | exact H
                                  have Ny239 := Aside0.mk hy239
                                  clear hy239
                                  have H' := Aside0.mk H
                                  clear H
                                  go_wp2_with (first | ((with_reducible refine gate_builtin (b := .append) (xs := #[.tmp 82, .tmp 88]) rfl ?_); (try (refine gate_guard (by rfl) ?_; dsimp only)); at_builtin; refine Kd.R_append k112 (w0 := w) w.heap.size rfl (.tmp 82) (.tmp 88) 67 112 (.agg #[(.string ⟨#[]⟩), (.int .i64 0)]) 24 rfl Tryd.underlying67 info112 rfl (by decide) (by omega) u4 x4_2 (⟨a0.extract (x5_2 : Int).toNat (x5_3 : Int).toNat, 0⟩ : S112) [.string (a0.extract (x5_2 : Int).toNat (x5_3 : Int).toNat), .int .i64 0] (fun _ => True) (fun _ => False) rfl rfl ?aP (fun _ hk => hk.elim) ?aF ?aO ?aB ?aS ?aL ?_; (case aP => exact k112_mkM _ _ _ (⟨a0.extract (x5_2 : Int).toNat (x5_3 : Int).toNat, 0⟩ : S112)); (case aB => exact (by repeat (first | (with_reducible first | exact HB.out | apply below_alloc | apply pw_below_drewN | apply below_drew1) | exact HB.out))); (case aF => exact (fun _ _ => trivial)); (case aO => exact (by (with_reducible repeat (first | apply Kd.R_alloc | apply Kd.R_drewN | apply Kd.R_drew)); exact HO_4.out)); (case aS => exact (below_size (by repeat (first | (with_reducible first | exact HB.out | apply below_alloc | apply pw_below_drewN | apply below_drew1) | exact HB.out)))); (case aL => have := LMc44.out; omega); intro v240 w45 ho hb hg hat; rw [← Ny239.out] at ho; have n0_ := Aside0.mk (hb); have n1_ := Aside0.mk (ho); clear HB; clear HO_4; have HB := n0_; have HO241 := n1_; clear n0_ n1_; clear ho hb hg hat))
                                  go_roundg k3
                                  case measure => have := HJ1.out; have := HK2.out; have := HK3.out; omega
                                  case rel => exact ⟨(y239), (x5_3), (by first | rfl | (simp; done) | (simp [*]; done)), H', ⟨by have := HJ1.out; have := HK2.out; have := HK3.out; omega⟩, ⟨by (with_reducible repeat (first | apply Kd.R_alloc | apply Kd.R_drewN | apply Kd.R_drew)); exact HO241.out⟩, ⟨by repeat (first | (with_reducible first | exact HB.out | apply below_alloc | apply pw_below_drewN | apply below_drew1) | exact HB.out)⟩⟩
                                · rw [if_neg c44] at H
                                  exact absurd H (by simp)
                              · rw [if_neg c43] at H
                                exact absurd H (by simp)
                            · rw [if_neg c42] at H
                              exact absurd H (by simp)
                          · rw [if_neg c41] at H
                            exact absurd H (by simp)
                  · replace c30 := Bool.eq_false_iff.mpr c30
                    subst c30
                    have H1 : (if (bt a0 x5_2) = 46 then (spec_l6Parts.l0 k2 a0 x4_2 (wrap64 (x5_2 + 1))) else (if (bt a0 x5_2) = 45 then (spec_l6Parts.l0 k2 a0 x4_2 (wrap64 (x5_2 + 1))) else (some (x4_2, false)))) = some (r1, r2) := by rw [if_neg (show ¬ (false = true) by decide)] at H; exact H
                    clear H
                    have H := H1
                    clear H1
                    by_cases c47 : (bt a0 x5_2) = 46
                    · rw [if_pos c47] at H
                      have c47b0 : ((bt a0 x5_2) == 46) = true := beq_iff_eq.mpr c47
                      have c47b1 : ((bt a0 x5_2) != 46) = false := bne_eq_false_iff_eq.mpr c47
                      clear c47
                      have H' := Aside0.mk H
                      clear H
                      have p13 : 0 ≤ (x5_2 : Int) := of_decide_eq_true (by first | (with_reducible assumption) | assumption)
                      have q13 : x5_2 < (a0.size : Int) := of_decide_eq_true (by first | (with_reducible assumption) | assumption)
                      have hx13 := bt_at a0 x5_2
                      replace p13 := eq_true p13
                      replace q13 := eq_true q13
                      go_wp2_with (first | ((with_reducible refine gate_callee (f := 85) rfl ?_); refine goesL_ (some 34) rfl rfl Tryd.func85 (by kernel_rfl) rfl #[.int .u8 (bt a0 x5_2)] rfl (by (try simp only [List.map_toArray, List.map_cons, List.map_nil]); first | done | rfl | (simp only [List.length_drop, List.length_take]; rfl)) ?_; (with_reducible refine (spec_l1Digit.calls (bt a0 x5_2) false _ A14.out).mono ?_); rintro e w' ⟨rfl, ⟨nd, rfl⟩⟩; refine ⟨_, rfl, ?_⟩; have p28 : 0 ≤ (x5_2 : Int) := of_decide_eq_true (by first | (with_reducible assumption) | assumption); have q28 : x5_2 < (a0.size : Int) := of_decide_eq_true (by first | (with_reducible assumption) | assumption); have hx28 := bt_at a0 x5_2; replace p28 := eq_true p28; replace q28 := eq_true q28) | ((with_reducible refine gate_callee (f := 86) rfl ?_); refine goesL_ (some 69) rfl rfl Tryd.func86 (by kernel_rfl) rfl #[.int .u8 (bt a0 x5_2)] rfl (by (try simp only [List.map_toArray, List.map_cons, List.map_nil]); first | done | rfl | (simp only [List.length_drop, List.length_take]; rfl)) ?_; (with_reducible refine (spec_l1Letter.calls (bt a0 x5_2) false _ A29.out).mono ?_); rintro e w' ⟨rfl, ⟨nd, rfl⟩⟩; refine ⟨_, rfl, ?_⟩; have p46 : 0 ≤ (x5_2 : Int) := of_decide_eq_true (by first | (with_reducible assumption) | assumption); have q46 : x5_2 < (a0.size : Int) := of_decide_eq_true (by first | (with_reducible assumption) | assumption); have hx46 := bt_at a0 x5_2; replace p46 := eq_true p46; replace q46 := eq_true q46))
                      go_roundg k2
                      case measure => have := HJ1.out; have := HK2.out; omega
                      case rel => exact ⟨(x4_2), (wrap64 (x5_2 + 1)), (by first | rfl | (simp; done) | (simp [*]; done)), H', ⟨by have := HJ1.out; have := HK2.out; omega⟩, ⟨by (with_reducible repeat (first | apply Kd.R_alloc | apply Kd.R_drewN | apply Kd.R_drew)); exact HO_4.out⟩, ⟨by repeat (first | (with_reducible first | exact HB.out | apply below_alloc | apply pw_below_drewN | apply below_drew1) | exact HB.out)⟩⟩
                    · rw [if_neg c47] at H
                      have c47b0 : ((bt a0 x5_2) == 46) = false := beq_eq_false_iff_ne.mpr c47
                      have c47b1 : ((bt a0 x5_2) != 46) = true := bne_iff_ne.mpr c47
                      by_cases c49 : (bt a0 x5_2) = 45
                      · rw [if_pos c49] at H
                        have c49b0 : ((bt a0 x5_2) == 45) = true := beq_iff_eq.mpr c49
                        have c49b1 : ((bt a0 x5_2) != 45) = false := bne_eq_false_iff_eq.mpr c49
                        clear c49
                        have H' := Aside0.mk H
                        clear H
                        have p13 : 0 ≤ (x5_2 : Int) := of_decide_eq_true (by first | (with_reducible assumption) | assumption)
                        have q13 : x5_2 < (a0.size : Int) := of_decide_eq_true (by first | (with_reducible assumption) | assumption)
                        have hx13 := bt_at a0 x5_2
                        replace p13 := eq_true p13
                        replace q13 := eq_true q13
                        go_wp2_with (first | ((with_reducible refine gate_callee (f := 85) rfl ?_); refine goesL_ (some 34) rfl rfl Tryd.func85 (by kernel_rfl) rfl #[.int .u8 (bt a0 x5_2)] rfl (by (try simp only [List.map_toArray, List.map_cons, List.map_nil]); first | done | rfl | (simp only [List.length_drop, List.length_take]; rfl)) ?_; (with_reducible refine (spec_l1Digit.calls (bt a0 x5_2) false _ A14.out).mono ?_); rintro e w' ⟨rfl, ⟨nd, rfl⟩⟩; refine ⟨_, rfl, ?_⟩; have p28 : 0 ≤ (x5_2 : Int) := of_decide_eq_true (by first | (with_reducible assumption) | assumption); have q28 : x5_2 < (a0.size : Int) := of_decide_eq_true (by first | (with_reducible assumption) | assumption); have hx28 := bt_at a0 x5_2; replace p28 := eq_true p28; replace q28 := eq_true q28) | ((with_reducible refine gate_callee (f := 86) rfl ?_); refine goesL_ (some 69) rfl rfl Tryd.func86 (by kernel_rfl) rfl #[.int .u8 (bt a0 x5_2)] rfl (by (try simp only [List.map_toArray, List.map_cons, List.map_nil]); first | done | rfl | (simp only [List.length_drop, List.length_take]; rfl)) ?_; (with_reducible refine (spec_l1Letter.calls (bt a0 x5_2) false _ A29.out).mono ?_); rintro e w' ⟨rfl, ⟨nd, rfl⟩⟩; refine ⟨_, rfl, ?_⟩; have p46 : 0 ≤ (x5_2 : Int) := of_decide_eq_true (by first | (with_reducible assumption) | assumption); have q46 : x5_2 < (a0.size : Int) := of_decide_eq_true (by first | (with_reducible assumption) | assumption); have hx46 := bt_at a0 x5_2; replace p46 := eq_true p46; replace q46 := eq_true q46; have p48 : 0 ≤ (x5_2 : Int) := of_decide_eq_true (by first | (with_reducible assumption) | assumption); have q48 : x5_2 < (a0.size : Int) := of_decide_eq_true (by first | (with_reducible assumption) | assumption); have hx48 := bt_at a0 x5_2; replace p48 := eq_true p48; replace q48 := eq_true q48))
                        go_roundg k2
                        case measure => have := HJ1.out; have := HK2.out; omega
                        case rel => exact ⟨(x4_2), (wrap64 (x5_2 + 1)), (by first | rfl | (simp; done) | (simp [*]; done)), H', ⟨by have := HJ1.out; have := HK2.out; omega⟩, ⟨by (with_reducible repeat (first | apply Kd.R_alloc | apply Kd.R_drewN | apply Kd.R_drew)); exact HO_4.out⟩, ⟨by repeat (first | (with_reducible first | exact HB.out | apply below_alloc | apply pw_below_drewN | apply below_drew1) | exact HB.out)⟩⟩
                      · rw [if_neg c49] at H
                        have c49b0 : ((bt a0 x5_2) == 45) = false := beq_eq_false_iff_ne.mpr c49
                        have c49b1 : ((bt a0 x5_2) != 45) = true := bne_iff_ne.mpr c49
                        simp only [Option.some.injEq, Prod.mk.injEq] at H
                        obtain ⟨rfl, rfl⟩ := H
                        have p13 : 0 ≤ (x5_2 : Int) := of_decide_eq_true (by first | (with_reducible assumption) | assumption)
                        have q13 : x5_2 < (a0.size : Int) := of_decide_eq_true (by first | (with_reducible assumption) | assumption)
                        have hx13 := bt_at a0 x5_2
                        replace p13 := eq_true p13
                        replace q13 := eq_true q13
                        go_wp2_with (first | ((with_reducible refine gate_callee (f := 85) rfl ?_); refine goesL_ (some 34) rfl rfl Tryd.func85 (by kernel_rfl) rfl #[.int .u8 (bt a0 x5_2)] rfl (by (try simp only [List.map_toArray, List.map_cons, List.map_nil]); first | done | rfl | (simp only [List.length_drop, List.length_take]; rfl)) ?_; (with_reducible refine (spec_l1Digit.calls (bt a0 x5_2) false _ A14.out).mono ?_); rintro e w' ⟨rfl, ⟨nd, rfl⟩⟩; refine ⟨_, rfl, ?_⟩; have p28 : 0 ≤ (x5_2 : Int) := of_decide_eq_true (by first | (with_reducible assumption) | assumption); have q28 : x5_2 < (a0.size : Int) := of_decide_eq_true (by first | (with_reducible assumption) | assumption); have hx28 := bt_at a0 x5_2; replace p28 := eq_true p28; replace q28 := eq_true q28) | ((with_reducible refine gate_callee (f := 86) rfl ?_); refine goesL_ (some 69) rfl rfl Tryd.func86 (by kernel_rfl) rfl #[.int .u8 (bt a0 x5_2)] rfl (by (try simp only [List.map_toArray, List.map_cons, List.map_nil]); first | done | rfl | (simp only [List.length_drop, List.length_take]; rfl)) ?_; (with_reducible refine (spec_l1Letter.calls (bt a0 x5_2) false _ A29.out).mono ?_); rintro e w' ⟨rfl, ⟨nd, rfl⟩⟩; refine ⟨_, rfl, ?_⟩; have p46 : 0 ≤ (x5_2 : Int) := of_decide_eq_true (by first | (with_reducible assumption) | assumption); have q46 : x5_2 < (a0.size : Int) := of_decide_eq_true (by first | (with_reducible assumption) | assumption); have hx46 := bt_at a0 x5_2; replace p46 := eq_true p46; replace q46 := eq_true q46; have p48 : 0 ≤ (x5_2 : Int) := of_decide_eq_true (by first | (with_reducible assumption) | assumption); have q48 : x5_2 < (a0.size : Int) := of_decide_eq_true (by first | (with_reducible assumption) | assumption); have hx48 := bt_at a0 x5_2; replace p48 := eq_true p48; replace q48 := eq_true q48))
                        go_ret2
                        exact ⟨_, by first | rfl | (simp [errW_none, errW_some] <;> rfl) | (simp [*, errW_none, errW_some] <;> rfl), by (with_reducible repeat (first | apply Kd.R_alloc | apply Kd.R_drewN | apply Kd.R_drew)); exact HO_4.out, by repeat (first | (with_reducible first | exact HB.out | apply below_alloc | apply pw_below_drewN | apply below_drew1) | exact HB.out)⟩
              · rw [if_neg c12] at H
                exact absurd H (by simp)
            · rw [if_neg c11] at H
              have c11b0 : decide (x5_2 < (a0.size : Int)) = false := decide_eq_false c11
              clear c11
              simp only [Option.some.injEq, Prod.mk.injEq] at H
              obtain ⟨rfl, rfl⟩ := H
              go_wp2
              go_ret2
              exact ⟨_, by first | rfl | (simp [errW_none, errW_some] <;> rfl) | (simp [*, errW_none, errW_some] <;> rfl), by (with_reducible repeat (first | apply Kd.R_alloc | apply Kd.R_drewN | apply Kd.R_drew)); exact HO_4.out, by repeat (first | (with_reducible first | exact HB.out | apply below_alloc | apply pw_below_drewN | apply below_drew1) | exact HB.out)⟩
end Go.Proofs.YtgknoemegejlkaaDoor.P
end

section
namespace Go.Proofs.YtgknoemegejlkaaDoor.P
open Go.RowKit Go.Proofs.YtgknoemegejlkaaDoorW.PrintWords Go.Proofs.YtgknoemegejlkaaDoorW.PrintLast Go.Proofs.YtgknoemegejlkaaDoorW.PrintMore Go.Proofs.YtgknoemegejlkaaDoorM
attribute [local go_sem] max2_int min2_int max_two min_two max_three min_three max_four min_four   -- for this text's walks alone
set_option linter.unusedVariables false
set_option linter.unusedSimpArgs false
def spec_VersionOk.f (k : Nat) (a0 : ByteArray) : Option (Bool) := (spec_l6Parts.f k a0).bind fun bt242 => (some bt242.2)
set_option maxHeartbeats 8000000 in
set_option maxRecDepth 100000 in
theorem spec_VersionOk.calls (k : Nat) (a0 : ByteArray) (r : Bool) (w : World) (h : spec_VersionOk.f k a0 = some r) :
    Calls Tryd.prog 13 #[.string a0] w fun e w' => e = .returned (.bool r) ∧ Below w.heap.size w w' := by
  have HB := Aside0.mk (Below.refl w.heap.size w)
  have H : ((spec_l6Parts.f k a0).bind fun bt242 => (some bt242.2)) = some r := h
  clear h
  replace H := Option.bind_eq_some_iff.mp H
  obtain ⟨⟨t242, t243⟩, A20, H⟩ := H
  replace H : (some t243) = some r := H
  have A2 := Aside0.mk A20
  clear A20
  obtain rfl := Option.some.inj H
  go_enter Tryd.func13, Tryd.ntmps13
  go_wp2_with (first | ((with_reducible refine gate_callee (f := 48) rfl ?_); refine goesL_ (some 7) rfl rfl Tryd.func48 (by kernel_rfl) rfl #[.string a0] rfl (by (try simp only [List.map_toArray, List.map_cons, List.map_nil]); first | done | rfl | (simp only [List.length_drop, List.length_take]; rfl)) ?_; (with_reducible refine (spec_l6Parts.calls k a0 t242 t243 _ A2.out).mono ?_); rintro e w3 ⟨v244, rfl, ho0, hb⟩; refine ⟨_, rfl, ?_⟩; have n0_ := Aside0.mk (Kd.R_lower ho0 (below_size (by repeat (first | (with_reducible first | exact HB.out | apply below_alloc | apply pw_below_drewN | apply below_drew1) | exact HB.out)))); have n1_ := Aside0.mk (below_step (by repeat (first | (with_reducible first | exact HB.out | apply below_alloc | apply pw_below_drewN | apply below_drew1) | exact HB.out)) hb); clear HB; have HO245 := n0_; have HB := n1_; clear n0_ n1_; (try clear hb); (try clear hb2); (try clear hk); (try clear hi); (try clear ho0)))
  go_ret
  exact ⟨by first | rfl | (simp [errW_none, errW_some] <;> rfl) | (simp [*, errW_none, errW_some] <;> rfl), by repeat (first | (with_reducible first | exact HB.out | apply below_alloc | apply pw_below_drewN | apply below_drew1) | exact HB.out)⟩
end Go.Proofs.YtgknoemegejlkaaDoor.P
end

section
namespace Go.Proofs.YtgknoemegejlkaaDoor.P
open Go.RowKit Go.Proofs.YtgknoemegejlkaaDoorW.PrintWords Go.Proofs.YtgknoemegejlkaaDoorW.PrintLast Go.Proofs.YtgknoemegejlkaaDoorW.PrintMore Go.Proofs.YtgknoemegejlkaaDoorM
attribute [local go_sem] max2_int min2_int max_two min_two max_three min_three max_four min_four   -- for this text's walks alone
set_option linter.unusedVariables false
set_option linter.unusedSimpArgs false
mutual
def laws_FnVersionOrder.j0 : Nat → List Int → List Int → Bool → Option (Bool)
  | 0, _, _, _ => none
  | k + 1, x0, x1, x16 => if x16 = true then (some true) else ((spec_DrawCompareVersions.f k x0).bind fun bt248 => ((spec_DrawCompareVersions.f k x1).bind fun bt250 => ((impl_CompareVersions.f k (⟨#[49, 46, 50]⟩ : ByteArray) (⟨#[49, 46, 49, 48]⟩ : ByteArray)).bind fun t252 => (if t252 = (-1) then ((impl_CompareVersions.f k (⟨#[]⟩ : ByteArray) (⟨#[49]⟩ : ByteArray)).bind fun t253 => (laws_FnVersionOrder.j1 k bt248.1 bt248.2 bt250.1 (t253 != 2))) else (laws_FnVersionOrder.j1 k bt248.1 bt248.2 bt250.1 true)))))
def laws_FnVersionOrder.j1 : Nat → ByteArray → ByteArray → ByteArray → Bool → Option (Bool)
  | 0, _, _, _, _ => none
  | k + 1, x5, x6, x7, x32 => if x32 = true then (some false) else ((spec_VersionOk.f k x5).bind fun t254 => (if t254 = true then ((spec_VersionOk.f k x6).bind fun t255 => (if t255 = true then ((spec_VersionOk.f k x7).bind fun t256 => (laws_FnVersionOrder.j2 k x5 x6 x7 (!t256))) else (laws_FnVersionOrder.j2 k x5 x6 x7 true))) else (laws_FnVersionOrder.j2 k x5 x6 x7 true)))
def laws_FnVersionOrder.j2 : Nat → ByteArray → ByteArray → ByteArray → Bool → Option (Bool)
  | 0, _, _, _, _ => none
  | k + 1, x5, x6, x7, x45 => if x45 = true then (some true) else ((impl_CompareVersions.f k x5 x6).bind fun t257 => ((impl_CompareVersions.f k x6 x5).bind fun t258 => (if t257 = (wrap64 (-t258)) then ((impl_CompareVersions.f k x5 x5).bind fun t259 => (laws_FnVersionOrder.j3 k x5 x6 x7 t257 (t259 != 0))) else (laws_FnVersionOrder.j3 k x5 x6 x7 t257 true))))
def laws_FnVersionOrder.j3 : Nat → ByteArray → ByteArray → ByteArray → Int → Bool → Option (Bool)
  | 0, _, _, _, _, _ => none
  | k + 1, x5, x6, x7, x9, x60 => if x60 = true then (some false) else ((impl_CompareVersions.f k x6 x7).bind fun t260 => (if x9 ≤ 0 then (if t260 ≤ 0 then ((impl_CompareVersions.f k x5 x7).bind fun t261 => (if t261 > 0 then (laws_FnVersionOrder.j4 k x5 true) else (if x9 = 0 then (if t260 = 0 then ((impl_CompareVersions.f k x5 x7).bind fun t262 => (laws_FnVersionOrder.j4 k x5 (t262 != 0))) else (laws_FnVersionOrder.j4 k x5 false)) else (laws_FnVersionOrder.j4 k x5 false)))) else (if x9 = 0 then (if t260 = 0 then ((impl_CompareVersions.f k x5 x7).bind fun t263 => (laws_FnVersionOrder.j4 k x5 (t263 != 0))) else (laws_FnVersionOrder.j4 k x5 false)) else (laws_FnVersionOrder.j4 k x5 false))) else (if x9 = 0 then (if t260 = 0 then ((impl_CompareVersions.f k x5 x7).bind fun t264 => (laws_FnVersionOrder.j4 k x5 (t264 != 0))) else (laws_FnVersionOrder.j4 k x5 false)) else (laws_FnVersionOrder.j4 k x5 false))))
def laws_FnVersionOrder.j4 : Nat → ByteArray → Bool → Option (Bool)
  | 0, _, _ => none
  | k + 1, x5, x89 => if x89 = true then (some false) else (if (wrap64 ((x5.size : Int) + 2)) > 30 then (some true) else (if x5.size + 2 ≤ 9223372036854775807 then ((impl_CompareVersions.f k (x5 ++ (⟨#[46, 48]⟩ : ByteArray)) x5).bind fun t265 => (if t265 = 1 then ((impl_CompareVersions.f k (x5 ++ (⟨#[45, 97]⟩ : ByteArray)) x5).bind fun t266 => (some (t266 == (-1)))) else (some false))) else (none)))
end
def laws_FnVersionOrder.f (k : Nat) (l0 : List Int) (l1 : List Int) : Option (Bool) := (laws_big.f l0).bind fun t246 => (if t246 = true then (laws_FnVersionOrder.j0 k l0 l1 true) else ((laws_big.f l1).bind fun t247 => (laws_FnVersionOrder.j0 k l0 l1 t247)))
set_option maxHeartbeats 8000000 in
set_option maxRecDepth 100000 in
theorem laws_FnVersionOrder.calls (k : Nat) (A0 : Option Addr) (c0 : Nat) (l0 : List Int) (A1 : Option Addr) (c1 : Nat) (l1 : List Int) (r : Bool) (w : World) (hr0 : Kd.C (Kd.int .u8) w A0 l0.length l0) (hc0 : l0.length ≤ c0) (hr1 : Kd.C (Kd.int .u8) w A1 l1.length l1) (hc1 : l1.length ≤ c1) (h : laws_FnVersionOrder.f k l0 l1 = some r) :
    Calls Tryd.prog 3 #[.slice A0 l0.length c0, .slice A1 l1.length c1] w fun e w' => e = .returned (.bool r) ∧ Below w.heap.size w w' := by
  have HR0 := Aside0.mk hr0
  have HC0 := Aside0.mk hc0
  clear hr0 hc0
  have HR1 := Aside0.mk hr1
  have HC1 := Aside0.mk hc1
  clear hr1 hc1
  have HB := Aside0.mk (Below.refl w.heap.size w)
  have H : ((laws_big.f l0).bind fun t246 => (if t246 = true then (laws_FnVersionOrder.j0 k l0 l1 true) else ((laws_big.f l1).bind fun t247 => (laws_FnVersionOrder.j0 k l0 l1 t247)))) = some r := h
  clear h
  have HC3 := Aside0.mk H
  clear H
  go_enter Tryd.func3, Tryd.ntmps3
  go_upto_region 1 with (fail)
  go_cut [16] (fun v16 wc => ∃ (kq : Nat) (x16_2 : Bool), v16 = .bool x16_2 ∧ Aside0 (laws_FnVersionOrder.j0 kq l0 l1 x16_2 = some r) ∧ Aside0 (kq ≤ k) ∧ Aside0 (Below w.heap.size w wc))
  case first =>
    have H := HC3.out
    clear HC3
    replace H := Option.bind_eq_some_iff.mp H
    obtain ⟨t246, A40, H⟩ := H
    replace H : (if t246 = true then (laws_FnVersionOrder.j0 k l0 l1 true) else ((laws_big.f l1).bind fun t247 => (laws_FnVersionOrder.j0 k l0 l1 t247))) = some r := H
    have A4 := Aside0.mk A40
    clear A40
    by_cases c5 : t246 = true
    · subst c5
      have H1 : (laws_FnVersionOrder.j0 k l0 l1 true) = some r := by rw [if_pos rfl] at H; exact H
      clear H
      have H := H1
      clear H1
      have H' := Aside0.mk H
      clear H
      go_wp2_with (first | ((with_reducible refine gate_callee (f := 10) rfl ?_); refine goesL_ (some 12) rfl rfl Tryd.func10 (by kernel_rfl) rfl #[.slice A0 l0.length c0] rfl (by (try simp only [List.map_toArray, List.map_cons, List.map_nil]); first | done | rfl | (simp only [List.length_drop, List.length_take]; rfl)) ?_; (with_reducible refine (laws_big.calls _ _ l0 true _ ?side1 ?side2 A4.out).mono ?_); (case side1 => repeat (first | exact (Kd.C_below HR0.out HB.out) | (with_reducible refine Kd.C_alloc ?_ _) | (with_reducible refine Kd.C_drewN ?_ _) | (with_reducible refine Kd.C_drew ?_))); (case side2 => exact HC0.out); rintro e w' ⟨rfl, ⟨nd, rfl⟩⟩; refine ⟨_, rfl, ?_⟩))
      go_meet
      case rel => exact ⟨_, (true), (by first | rfl | (simp; done) | (simp [*]; done)), H', ⟨by first | omega | exact Nat.le_refl _⟩, ⟨by repeat (first | (with_reducible first | exact HB.out | apply below_alloc | apply pw_below_drewN | apply below_drew1) | exact HB.out)⟩⟩
    · replace c5 := Bool.eq_false_iff.mpr c5
      subst c5
      have H1 : ((laws_big.f l1).bind fun t247 => (laws_FnVersionOrder.j0 k l0 l1 t247)) = some r := by rw [if_neg (show ¬ (false = true) by decide)] at H; exact H
      clear H
      have H := H1
      clear H1
      replace H := Option.bind_eq_some_iff.mp H
      obtain ⟨t247, A60, H⟩ := H
      replace H : (laws_FnVersionOrder.j0 k l0 l1 t247) = some r := H
      have A6 := Aside0.mk A60
      clear A60
      have H' := Aside0.mk H
      clear H
      go_wp2_with (first | ((with_reducible refine gate_callee (f := 10) rfl ?_); refine goesL_ (some 12) rfl rfl Tryd.func10 (by kernel_rfl) rfl #[.slice A0 l0.length c0] rfl (by (try simp only [List.map_toArray, List.map_cons, List.map_nil]); first | done | rfl | (simp only [List.length_drop, List.length_take]; rfl)) ?_; (with_reducible refine (laws_big.calls _ _ l0 false _ ?side1 ?side2 A4.out).mono ?_); (case side1 => repeat (first | exact (Kd.C_below HR0.out HB.out) | (with_reducible refine Kd.C_alloc ?_ _) | (with_reducible refine Kd.C_drewN ?_ _) | (with_reducible refine Kd.C_drew ?_))); (case side2 => exact HC0.out); rintro e w' ⟨rfl, ⟨nd, rfl⟩⟩; refine ⟨_, rfl, ?_⟩) | (go_at_call 10; (with_reducible refine (laws_big.calls _ _ l1 t247 _ ?side1 ?side2 A6.out).mono ?_); (case side1 => repeat (first | exact (Kd.C_below HR1.out (by repeat (first | (with_reducible first | exact HB.out | apply below_alloc | apply pw_below_drewN | apply below_drew1) | exact HB.out))) | (with_reducible refine Kd.C_alloc ?_ _) | (with_reducible refine Kd.C_drewN ?_ _) | (with_reducible refine Kd.C_drew ?_))); (case side2 => exact HC1.out); rintro e w' ⟨rfl, ⟨nd, rfl⟩⟩))
      go_meet
      case rel => exact ⟨_, (t247), (by first | rfl | (simp; done) | (simp [*]; done)), H', ⟨by first | omega | exact Nat.le_refl _⟩, ⟨by repeat (first | (with_reducible first | exact HB.out | apply below_alloc | apply pw_below_drewN | apply below_drew1) | exact HB.out)⟩⟩
  case rest =>
    clear HC3
    try clear c1
    try clear p2
    try clear c3
    try clear c5
    obtain ⟨kq, x16_2, rfl, HA, HJ2, HB⟩ := hcut
    cases kq with
    | zero => exact absurd HA.out (by simp [laws_FnVersionOrder.j0])
    | succ kj2 =>
      have H := HA.out
      clear HA
      simp only [laws_FnVersionOrder.j0] at H
      by_cases c7 : x16_2 = true
      · subst c7
        have H1 : (some true) = some r := by rw [if_pos rfl] at H; exact H
        clear H
        have H := H1
        clear H1
        obtain rfl := Option.some.inj H
        go_wp2
        go_ret
        exact ⟨by first | rfl | (simp [errW_none, errW_some] <;> rfl) | (simp [*, errW_none, errW_some] <;> rfl), by repeat (first | (with_reducible first | exact HB.out | apply below_alloc | apply pw_below_drewN | apply below_drew1) | exact HB.out)⟩
      · replace c7 := Bool.eq_false_iff.mpr c7
        subst c7
        have H1 : ((spec_DrawCompareVersions.f kj2 l0).bind fun bt248 => ((spec_DrawCompareVersions.f kj2 l1).bind fun bt250 => ((impl_CompareVersions.f kj2 (⟨#[49, 46, 50]⟩ : ByteArray) (⟨#[49, 46, 49, 48]⟩ : ByteArray)).bind fun t252 => (if t252 = (-1) then ((impl_CompareVersions.f kj2 (⟨#[]⟩ : ByteArray) (⟨#[49]⟩ : ByteArray)).bind fun t253 => (laws_FnVersionOrder.j1 kj2 bt248.1 bt248.2 bt250.1 (t253 != 2))) else (laws_FnVersionOrder.j1 kj2 bt248.1 bt248.2 bt250.1 true))))) = some r := by rw [if_neg (show ¬ (false = true) by decide)] at H; exact H
        clear H
        have H := H1
        clear H1
        replace H := Option.bind_eq_some_iff.mp H
        obtain ⟨⟨t248, t249⟩, A80, H⟩ := H
        replace H : ((spec_DrawCompareVersions.f kj2 l1).bind fun bt250 => ((impl_CompareVersions.f kj2 (⟨#[49, 46, 50]⟩ : ByteArray) (⟨#[49, 46, 49, 48]⟩ : ByteArray)).bind fun t252 => (if t252 = (-1) then ((impl_CompareVersions.f kj2 (⟨#[]⟩ : ByteArray) (⟨#[49]⟩ : ByteArray)).bind fun t253 => (laws_FnVersionOrder.j1 kj2 t248 t249 bt250.1 (t253 != 2))) else (laws_FnVersionOrder.j1 kj2 t248 t249 bt250.1 true)))) = some r := H
        have A8 := Aside0.mk A80
        clear A80
        replace H := Option.bind_eq_some_iff.mp H
        obtain ⟨⟨t250, t251⟩, A90, H⟩ := H
        replace H : ((impl_CompareVersions.f kj2 (⟨#[49, 46, 50]⟩ : ByteArray) (⟨#[49, 46, 49, 48]⟩ : ByteArray)).bind fun t252 => (if t252 = (-1) then ((impl_CompareVersions.f kj2 (⟨#[]⟩ : ByteArray) (⟨#[49]⟩ : ByteArray)).bind fun t253 => (laws_FnVersionOrder.j1 kj2 t248 t249 t250 (t253 != 2))) else (laws_FnVersionOrder.j1 kj2 t248 t249 t250 true))) = some r := H
        have A9 := Aside0.mk A90
        clear A90
        have HC10 := Aside0.mk H
        clear H
        go_upto_region 5 with (first | ((with_reducible refine gate_callee (f := 11) rfl ?_); refine goesL_ (some 19) rfl rfl Tryd.func11 (by kernel_rfl) rfl #[.slice A0 l0.length c0] rfl (by (try simp only [List.map_toArray, List.map_cons, List.map_nil]); first | done | rfl | (simp only [List.length_drop, List.length_take]; rfl)) ?_; (with_reducible refine (spec_DrawCompareVersions.calls kj2 _ _ l0 t248 t249 _ ?side1 ?side2 A8.out).mono ?_); (case side1 => repeat (first | exact (Kd.C_below HR0.out HB.out) | (with_reducible refine Kd.C_alloc ?_ _) | (with_reducible refine Kd.C_drewN ?_ _) | (with_reducible refine Kd.C_drew ?_))); (case side2 => exact HC0.out); rintro e w11 ⟨rfl, hb⟩; refine ⟨_, rfl, ?_⟩; have n0_ := Aside0.mk (below_step (by repeat (first | (with_reducible first | exact HB.out | apply below_alloc | apply pw_below_drewN | apply below_drew1) | exact HB.out)) hb); clear HB; have HB := n0_; clear n0_; (try clear hb); (try clear hb2); (try clear hk); (try clear hi)) | ((with_reducible refine gate_callee (f := 11) rfl ?_); refine goesL_ (some 24) rfl rfl Tryd.func11 (by kernel_rfl) rfl #[.slice A1 l1.length c1] rfl (by (try simp only [List.map_toArray, List.map_cons, List.map_nil]); first | done | rfl | (simp only [List.length_drop, List.length_take]; rfl)) ?_; (with_reducible refine (spec_DrawCompareVersions.calls kj2 _ _ l1 t250 t251 _ ?side1 ?side2 A9.out).mono ?_); (case side1 => repeat (first | exact (Kd.C_below HR1.out HB.out) | (with_reducible refine Kd.C_alloc ?_ _) | (with_reducible refine Kd.C_drewN ?_ _) | (with_reducible refine Kd.C_drew ?_))); (case side2 => exact HC1.out); rintro e w12 ⟨rfl, hb⟩; refine ⟨_, rfl, ?_⟩; have n0_ := Aside0.mk (below_step (by repeat (first | (with_reducible first | exact HB.out | apply below_alloc | apply pw_below_drewN | apply below_drew1) | exact HB.out)) hb); clear HB; have HB := n0_; clear n0_; (try clear hb); (try clear hb2); (try clear hk); (try clear hi)))
        (try simp only [Act.put, List.setIfInBounds_toArray, List.set_cons_zero, List.set_cons_succ])
        go_cut [32] (fun v32 wc => ∃ (kq : Nat) (x32_9 : Bool), v32 = .bool x32_9 ∧ Aside0 (laws_FnVersionOrder.j1 kq t248 t249 t250 x32_9 = some r) ∧ Aside0 (kq ≤ kj2) ∧ Aside0 (Below w.heap.size w wc))
        case first =>
          have H := HC10.out
          clear HC10
          replace H := Option.bind_eq_some_iff.mp H
          obtain ⟨t252, A130, H⟩ := H
          replace H : (if t252 = (-1) then ((impl_CompareVersions.f kj2 (⟨#[]⟩ : ByteArray) (⟨#[49]⟩ : ByteArray)).bind fun t253 => (laws_FnVersionOrder.j1 kj2 t248 t249 t250 (t253 != 2))) else (laws_FnVersionOrder.j1 kj2 t248 t249 t250 true)) = some r := H
          have A13 := Aside0.mk A130
          clear A130
          by_cases c14 : t252 = (-1)
          · rw [if_pos c14] at H
            have c14b0 : (t252 == (-1)) = true := beq_iff_eq.mpr c14
            have c14b1 : (t252 != (-1)) = false := bne_eq_false_iff_eq.mpr c14
            clear c14
            (first | rw [c14b0] | (simp only [i64_w, i32_w]; rw [c14b0]) | skip)
            replace H := Option.bind_eq_some_iff.mp H
            obtain ⟨t253, A150, H⟩ := H
            replace H : (laws_FnVersionOrder.j1 kj2 t248 t249 t250 (t253 != 2)) = some r := H
            have A15 := Aside0.mk A150
            clear A150
            have H' := Aside0.mk H
            clear H
            go_wp2_with (first | ((with_reducible refine gate_callee (f := 12) rfl ?_); refine goesL_ (some 27) rfl rfl Tryd.func12 (by kernel_rfl) rfl #[.string (⟨#[49, 46, 50]⟩ : ByteArray), .string (⟨#[49, 46, 49, 48]⟩ : ByteArray)] rfl (by (try simp only [List.map_toArray, List.map_cons, List.map_nil]); first | done | rfl | (simp only [List.length_drop, List.length_take]; rfl)) ?_; (with_reducible refine (impl_CompareVersions.calls kj2 (⟨#[49, 46, 50]⟩ : ByteArray) (⟨#[49, 46, 49, 48]⟩ : ByteArray) t252 _ A13.out).mono ?_); rintro e w16 ⟨rfl, hb⟩; refine ⟨_, rfl, ?_⟩; have n0_ := Aside0.mk (below_step (by repeat (first | (with_reducible first | exact HB.out | apply below_alloc | apply pw_below_drewN | apply below_drew1) | exact HB.out)) hb); clear HB; have HB := n0_; clear n0_; (try clear hb); (try clear hb2); (try clear hk); (try clear hi)) | (go_at_call 12; (with_reducible refine (impl_CompareVersions.calls kj2 (⟨#[]⟩ : ByteArray) (⟨#[49]⟩ : ByteArray) t253 _ A15.out).mono ?_); rintro e w17 ⟨rfl, hb⟩; have n0_ := Aside0.mk (below_step (by repeat (first | (with_reducible first | exact HB.out | apply below_alloc | apply pw_below_drewN | apply below_drew1) | exact HB.out)) hb); clear HB; have HB := n0_; clear n0_; (try clear hb); (try clear hb2); (try clear hk); (try clear hi)))
            go_meet
            case rel => exact ⟨_, ((t253 != 2)), (by first | rfl | (simp; done) | (simp [*]; done)), H', ⟨by have := HJ2.out; first | omega | exact Nat.le_refl _⟩, ⟨by repeat (first | (with_reducible first | exact HB.out | apply below_alloc | apply pw_below_drewN | apply below_drew1) | exact HB.out)⟩⟩
          · rw [if_neg c14] at H
            have c14b0 : (t252 == (-1)) = false := beq_eq_false_iff_ne.mpr c14
            have c14b1 : (t252 != (-1)) = true := bne_iff_ne.mpr c14
            (first | rw [c14b0] | (simp only [i64_w, i32_w]; rw [c14b0]) | skip)
            have H' := Aside0.mk H
            clear H
            go_wp2_with (first | ((with_reducible refine gate_callee (f := 12) rfl ?_); refine goesL_ (some 27) rfl rfl Tryd.func12 (by kernel_rfl) rfl #[.string (⟨#[49, 46, 50]⟩ : ByteArray), .string (⟨#[49, 46, 49, 48]⟩ : ByteArray)] rfl (by (try simp only [List.map_toArray, List.map_cons, List.map_nil]); first | done | rfl | (simp only [List.length_drop, List.length_take]; rfl)) ?_; (with_reducible refine (impl_CompareVersions.calls kj2 (⟨#[49, 46, 50]⟩ : ByteArray) (⟨#[49, 46, 49, 48]⟩ : ByteArray) t252 _ A13.out).mono ?_); rintro e w18 ⟨rfl, hb⟩; refine ⟨_, rfl, ?_⟩; have n0_ := Aside0.mk (below_step (by repeat (first | (with_reducible first | exact HB.out | apply below_alloc | apply pw_below_drewN | apply below_drew1) | exact HB.out)) hb); clear HB; have HB := n0_; clear n0_; (try clear hb); (try clear hb2); (try clear hk); (try clear hi)))
            go_meet
            case rel => exact ⟨_, (true), (by first | rfl | (simp; done) | (simp [*]; done)), H', ⟨by have := HJ2.out; first | omega | exact Nat.le_refl _⟩, ⟨by repeat (first | (with_reducible first | exact HB.out | apply below_alloc | apply pw_below_drewN | apply below_drew1) | exact HB.out)⟩⟩
        case rest =>
          clear HC10
          try clear c1
          try clear p2
          try clear c3
          try clear c5
          try clear c7
          try clear c10
          try clear c11
          try clear c12
          try clear c14
          try clear c14b0
          try clear c14b1
          try clear p2
          obtain ⟨kq, x32_9, rfl, HA, HJ9, HB⟩ := hcut
          cases kq with
          | zero => exact absurd HA.out (by simp [laws_FnVersionOrder.j1])
          | succ kj9 =>
            have H := HA.out
            clear HA
            simp only [laws_FnVersionOrder.j1] at H
            by_cases c19 : x32_9 = true
            · subst c19
              have H1 : (some false) = some r := by rw [if_pos rfl] at H; exact H
              clear H
              have H := H1
              clear H1
              obtain rfl := Option.some.inj H
              go_wp2
              go_ret
              exact ⟨by first | rfl | (simp [errW_none, errW_some] <;> rfl) | (simp [*, errW_none, errW_some] <;> rfl), by repeat (first | (with_reducible first | exact HB.out | apply below_alloc | apply pw_below_drewN | apply below_drew1) | exact HB.out)⟩
            · replace c19 := Bool.eq_false_iff.mpr c19
              subst c19
              have H1 : ((spec_VersionOk.f kj9 t248).bind fun t254 => (if t254 = true then ((spec_VersionOk.f kj9 t249).bind fun t255 => (if t255 = true then ((spec_VersionOk.f kj9 t250).bind fun t256 => (laws_FnVersionOrder.j2 kj9 t248 t249 t250 (!t256))) else (laws_FnVersionOrder.j2 kj9 t248 t249 t250 true))) else (laws_FnVersionOrder.j2 kj9 t248 t249 t250 true))) = some r := by rw [if_neg (show ¬ (false = true) by decide)] at H; exact H
              clear H
              have H := H1
              clear H1
              have HC20 := Aside0.mk H
              clear H
              go_upto_region 7 with (fail)
              go_cut [45] (fun v45 wc => ∃ (kq : Nat) (x45_19 : Bool), v45 = .bool x45_19 ∧ Aside0 (laws_FnVersionOrder.j2 kq t248 t249 t250 x45_19 = some r) ∧ Aside0 (kq ≤ kj9) ∧ Aside0 (Below w.heap.size w wc))
              case first =>
                have H := HC20.out
                clear HC20
                replace H := Option.bind_eq_some_iff.mp H
                obtain ⟨t254, A210, H⟩ := H
                replace H : (if t254 = true then ((spec_VersionOk.f kj9 t249).bind fun t255 => (if t255 = true then ((spec_VersionOk.f kj9 t250).bind fun t256 => (laws_FnVersionOrder.j2 kj9 t248 t249 t250 (!t256))) else (laws_FnVersionOrder.j2 kj9 t248 t249 t250 true))) else (laws_FnVersionOrder.j2 kj9 t248 t249 t250 true)) = some r := H
                have A21 := Aside0.mk A210
                clear A210
                by_cases c22 : t254 = true
                · subst c22
                  have H1 : ((spec_VersionOk.f kj9 t249).bind fun t255 => (if t255 = true then ((spec_VersionOk.f kj9 t250).bind fun t256 => (laws_FnVersionOrder.j2 kj9 t248 t249 t250 (!t256))) else (laws_FnVersionOrder.j2 kj9 t248 t249 t250 true))) = some r := by rw [if_pos rfl] at H; exact H
                  clear H
                  have H := H1
                  clear H1
                  replace H := Option.bind_eq_some_iff.mp H
                  obtain ⟨t255, A230, H⟩ := H
                  replace H : (if t255 = true then ((spec_VersionOk.f kj9 t250).bind fun t256 => (laws_FnVersionOrder.j2 kj9 t248 t249 t250 (!t256))) else (laws_FnVersionOrder.j2 kj9 t248 t249 t250 true)) = some r := H
                  have A23 := Aside0.mk A230
                  clear A230
                  by_cases c24 : t255 = true
                  · subst c24
                    have H1 : ((spec_VersionOk.f kj9 t250).bind fun t256 => (laws_FnVersionOrder.j2 kj9 t248 t249 t250 (!t256))) = some r := by rw [if_pos rfl] at H; exact H
                    clear H
                    have H := H1
                    clear H1
                    replace H := Option.bind_eq_some_iff.mp H
                    obtain ⟨t256, A250, H⟩ := H
                    replace H : (laws_FnVersionOrder.j2 kj9 t248 t249 t250 (!t256)) = some r := H
                    have A25 := Aside0.mk A250
                    clear A250
                    have H' := Aside0.mk H
                    clear H
                    go_wp2_with (first | ((with_reducible refine gate_callee (f := 13) rfl ?_); refine goesL_ (some 34) rfl rfl Tryd.func13 (by kernel_rfl) rfl #[.string t248] rfl (by (try simp only [List.map_toArray, List.map_cons, List.map_nil]); first | done | rfl | (simp only [List.length_drop, List.length_take]; rfl)) ?_; (with_reducible refine (spec_VersionOk.calls kj9 t248 true _ A21.out).mono ?_); rintro e w26 ⟨rfl, hb⟩; refine ⟨_, rfl, ?_⟩; have n0_ := Aside0.mk (below_step (by repeat (first | (with_reducible first | exact HB.out | apply below_alloc | apply pw_below_drewN | apply below_drew1) | exact HB.out)) hb); clear HB; have HB := n0_; clear n0_; (try clear hb); (try clear hb2); (try clear hk); (try clear hi)) | (go_at_call 13; (with_reducible refine (spec_VersionOk.calls kj9 t249 true _ A23.out).mono ?_); rintro e w27 ⟨rfl, hb⟩; have n0_ := Aside0.mk (below_step (by repeat (first | (with_reducible first | exact HB.out | apply below_alloc | apply pw_below_drewN | apply below_drew1) | exact HB.out)) hb); clear HB; have HB := n0_; clear n0_; (try clear hb); (try clear hb2); (try clear hk); (try clear hi); (try clear A23)) | (go_at_call 13; (with_reducible refine (spec_VersionOk.calls kj9 t250 t256 _ A25.out).mono ?_); rintro e w28 ⟨rfl, hb⟩; have n0_ := Aside0.mk (below_step (by repeat (first | (with_reducible first | exact HB.out | apply below_alloc | apply pw_below_drewN | apply below_drew1) | exact HB.out)) hb); clear HB; have HB := n0_; clear n0_; (try clear hb); (try clear hb2); (try clear hk); (try clear hi); (try clear A25)))
                    go_meet
                    case rel => exact ⟨_, (!t256), (by first | rfl | (simp; done) | (simp [*]; done)), H', ⟨by have := HJ2.out; have := HJ9.out; first | omega | exact Nat.le_refl _⟩, ⟨by repeat (first | (with_reducible first | exact HB.out | apply below_alloc | apply pw_below_drewN | apply below_drew1) | exact HB.out)⟩⟩
                  · replace c24 := Bool.eq_false_iff.mpr c24
                    subst c24
                    have H1 : (laws_FnVersionOrder.j2 kj9 t248 t249 t250 true) = some r := by rw [if_neg (show ¬ (false = true) by decide)] at H; exact H
                    clear H
                    have H := H1
                    clear H1
                    have H' := Aside0.mk H
                    clear H
                    go_wp2_with (first | ((with_reducible refine gate_callee (f := 13) rfl ?_); refine goesL_ (some 34) rfl rfl Tryd.func13 (by kernel_rfl) rfl #[.string t248] rfl (by (try simp only [List.map_toArray, List.map_cons, List.map_nil]); first | done | rfl | (simp only [List.length_drop, List.length_take]; rfl)) ?_; (with_reducible refine (spec_VersionOk.calls kj9 t248 true _ A21.out).mono ?_); rintro e w29 ⟨rfl, hb⟩; refine ⟨_, rfl, ?_⟩; have n0_ := Aside0.mk (below_step (by repeat (first | (with_reducible first | exact HB.out | apply below_alloc | apply pw_below_drewN | apply below_drew1) | exact HB.out)) hb); clear HB; have HB := n0_; clear n0_; (try clear hb); (try clear hb2); (try clear hk); (try clear hi)) | (go_at_call 13; (with_reducible refine (spec_VersionOk.calls kj9 t249 false _ A23.out).mono ?_); rintro e w30 ⟨rfl, hb⟩; have n0_ := Aside0.mk (below_step (by repeat (first | (with_reducible first | exact HB.out | apply below_alloc | apply pw_below_drewN | apply below_drew1) | exact HB.out)) hb); clear HB; have HB := n0_; clear n0_; (try clear hb); (try clear hb2); (try clear hk); (try clear hi)))
                    go_meet
                    case rel => exact ⟨_, (true), (by first | rfl | (simp; done) | (simp [*]; done)), H', ⟨by have := HJ2.out; have := HJ9.out; first | omega | exact Nat.le_refl _⟩, ⟨by repeat (first | (with_reducible first | exact HB.out | apply below_alloc | apply pw_below_drewN | apply below_drew1) | exact HB.out)⟩⟩
                · replace c22 := Bool.eq_false_iff.mpr c22
                  subst c22
                  have H1 : (laws_FnVersionOrder.j2 kj9 t248 t249 t250 true) = some r := by rw [if_neg (show ¬ (false = true) by decide)] at H; exact H
                  clear H
                  have H := H1
                  clear H1
                  have H' := Aside0.mk H
                  clear H
                  go_wp2_with (first | ((with_reducible refine gate_callee (f := 13) rfl ?_); refine goesL_ (some 34) rfl rfl Tryd.func13 (by kernel_rfl) rfl #[.string t248] rfl (by (try simp only [List.map_toArray, List.map_cons, List.map_nil]); first | done | rfl | (simp only [List.length_drop, List.length_take]; rfl)) ?_; (with_reducible refine (spec_VersionOk.calls kj9 t248 false _ A21.out).mono ?_); rintro e w31 ⟨rfl, hb⟩; refine ⟨_, rfl, ?_⟩; have n0_ := Aside0.mk (below_step (by repeat (first | (with_reducible first | exact HB.out | apply below_alloc | apply pw_below_drewN | apply below_drew1) | exact HB.out)) hb); clear HB; have HB := n0_; clear n0_; (try clear hb); (try clear hb2); (try clear hk); (try clear hi)))
                  go_meet
                  case rel => exact ⟨_, (true), (by first | rfl | (simp; done) | (simp [*]; done)), H', ⟨by have := HJ2.out; have := HJ9.out; first | omega | exact Nat.le_refl _⟩, ⟨by repeat (first | (with_reducible first | exact HB.out | apply below_alloc | apply pw_below_drewN | apply below_drew1) | exact HB.out)⟩⟩
              case rest =>
                clear HC20
                try clear c1
                try clear c2
                try clear p2
                try clear c3
                try clear c5
                try clear c7
                try clear c10
                try clear c11
                try clear c12
                try clear c13
                try clear c14
                try clear c14b0
                try clear c14b1
                try clear c19
                try clear c22
                try clear c24
                try clear p2
                obtain ⟨kq, x45_19, rfl, HA, HJ19, HB⟩ := hcut
                cases kq with
                | zero => exact absurd HA.out (by simp [laws_FnVersionOrder.j2])
                | succ kj19 =>
                  have H := HA.out
                  clear HA
                  simp only [laws_FnVersionOrder.j2] at H
                  by_cases c32 : x45_19 = true
                  · subst c32
                    have H1 : (some true) = some r := by rw [if_pos rfl] at H; exact H
                    clear H
                    have H := H1
                    clear H1
                    obtain rfl := Option.some.inj H
                    go_wp2
                    go_ret
                    exact ⟨by first | rfl | (simp [errW_none, errW_some] <;> rfl) | (simp [*, errW_none, errW_some] <;> rfl), by repeat (first | (with_reducible first | exact HB.out | apply below_alloc | apply pw_below_drewN | apply below_drew1) | exact HB.out)⟩
                  · replace c32 := Bool.eq_false_iff.mpr c32
                    subst c32
                    have H1 : ((impl_CompareVersions.f kj19 t248 t249).bind fun t257 => ((impl_CompareVersions.f kj19 t249 t248).bind fun t258 => (if t257 = (wrap64 (-t258)) then ((impl_CompareVersions.f kj19 t248 t248).bind fun t259 => (laws_FnVersionOrder.j3 kj19 t248 t249 t250 t257 (t259 != 0))) else (laws_FnVersionOrder.j3 kj19 t248 t249 t250 t257 true)))) = some r := by rw [if_neg (show ¬ (false = true) by decide)] at H; exact H
                    clear H
                    have H := H1
                    clear H1
                    replace H := Option.bind_eq_some_iff.mp H
                    obtain ⟨t257, A330, H⟩ := H
                    replace H : ((impl_CompareVersions.f kj19 t249 t248).bind fun t258 => (if t257 = (wrap64 (-t258)) then ((impl_CompareVersions.f kj19 t248 t248).bind fun t259 => (laws_FnVersionOrder.j3 kj19 t248 t249 t250 t257 (t259 != 0))) else (laws_FnVersionOrder.j3 kj19 t248 t249 t250 t257 true))) = some r := H
                    have A33 := Aside0.mk A330
                    clear A330
                    have HC34 := Aside0.mk H
                    clear H
                    go_upto_region 10 with (first | ((with_reducible refine gate_callee (f := 12) rfl ?_); refine goesL_ (some 48) rfl rfl Tryd.func12 (by kernel_rfl) rfl #[.string t248, .string t249] rfl (by (try simp only [List.map_toArray, List.map_cons, List.map_nil]); first | done | rfl | (simp only [List.length_drop, List.length_take]; rfl)) ?_; (with_reducible refine (impl_CompareVersions.calls kj19 t248 t249 t257 _ A33.out).mono ?_); rintro e w35 ⟨rfl, hb⟩; refine ⟨_, rfl, ?_⟩; have n0_ := Aside0.mk (below_step (by repeat (first | (with_reducible first | exact HB.out | apply below_alloc | apply pw_below_drewN | apply below_drew1) | exact HB.out)) hb); clear HB; have HB := n0_; clear n0_; (try clear hb); (try clear hb2); (try clear hk); (try clear hi)))
                    (try simp only [Act.put, List.setIfInBounds_toArray, List.set_cons_zero, List.set_cons_succ])
                    go_cut [60] (fun v60 wc => ∃ (kq : Nat) (x60_33 : Bool), v60 = .bool x60_33 ∧ Aside0 (laws_FnVersionOrder.j3 kq t248 t249 t250 t257 x60_33 = some r) ∧ Aside0 (kq ≤ kj19) ∧ Aside0 (Below w.heap.size w wc))
                    case first =>
                      have H := HC34.out
                      clear HC34
                      replace H := Option.bind_eq_some_iff.mp H
                      obtain ⟨t258, A360, H⟩ := H
                      replace H : (if t257 = (wrap64 (-t258)) then ((impl_CompareVersions.f kj19 t248 t248).bind fun t259 => (laws_FnVersionOrder.j3 kj19 t248 t249 t250 t257 (t259 != 0))) else (laws_FnVersionOrder.j3 kj19 t248 t249 t250 t257 true)) = some r := H
                      have A36 := Aside0.mk A360
                      clear A360
                      by_cases c37 : t257 = (wrap64 (-t258))
                      · rw [if_pos c37] at H
                        have c37b0 : (t257 == (wrap64 (-t258))) = true := beq_iff_eq.mpr c37
                        have c37b1 : (t257 != (wrap64 (-t258))) = false := bne_eq_false_iff_eq.mpr c37
                        clear c37
                        (first | rw [c37b0] | (simp only [i64_w, i32_w]; rw [c37b0]) | skip)
                        replace H := Option.bind_eq_some_iff.mp H
                        obtain ⟨t259, A380, H⟩ := H
                        replace H : (laws_FnVersionOrder.j3 kj19 t248 t249 t250 t257 (t259 != 0)) = some r := H
                        have A38 := Aside0.mk A380
                        clear A380
                        have H' := Aside0.mk H
                        clear H
                        go_wp2_with (first | ((with_reducible refine gate_callee (f := 12) rfl ?_); refine goesL_ (some 52) rfl rfl Tryd.func12 (by kernel_rfl) rfl #[.string t249, .string t248] rfl (by (try simp only [List.map_toArray, List.map_cons, List.map_nil]); first | done | rfl | (simp only [List.length_drop, List.length_take]; rfl)) ?_; (with_reducible refine (impl_CompareVersions.calls kj19 t249 t248 t258 _ A36.out).mono ?_); rintro e w39 ⟨rfl, hb⟩; refine ⟨_, rfl, ?_⟩; have n0_ := Aside0.mk (below_step (by repeat (first | (with_reducible first | exact HB.out | apply below_alloc | apply pw_below_drewN | apply below_drew1) | exact HB.out)) hb); clear HB; have HB := n0_; clear n0_; (try clear hb); (try clear hb2); (try clear hk); (try clear hi)) | (go_at_call 12; (with_reducible refine (impl_CompareVersions.calls kj19 t248 t248 t259 _ A38.out).mono ?_); rintro e w40 ⟨rfl, hb⟩; have n0_ := Aside0.mk (below_step (by repeat (first | (with_reducible first | exact HB.out | apply below_alloc | apply pw_below_drewN | apply below_drew1) | exact HB.out)) hb); clear HB; have HB := n0_; clear n0_; (try clear hb); (try clear hb2); (try clear hk); (try clear hi)))
                        go_meet
                        case rel => exact ⟨_, ((t259 != 0)), (by first | rfl | (simp; done) | (simp [*]; done)), H', ⟨by have := HJ2.out; have := HJ9.out; have := HJ19.out; first | omega | exact Nat.le_refl _⟩, ⟨by repeat (first | (with_reducible first | exact HB.out | apply below_alloc | apply pw_below_drewN | apply below_drew1) | exact HB.out)⟩⟩
                      · rw [if_neg c37] at H
                        have c37b0 : (t257 == (wrap64 (-t258))) = false := beq_eq_false_iff_ne.mpr c37
                        have c37b1 : (t257 != (wrap64 (-t258))) = true := bne_iff_ne.mpr c37
                        (first | rw [c37b0] | (simp only [i64_w, i32_w]; rw [c37b0]) | skip)
                        have H' := Aside0.mk H
                        clear H
                        go_wp2_with (first | ((with_reducible refine gate_callee (f := 12) rfl ?_); refine goesL_ (some 52) rfl rfl Tryd.func12 (by kernel_rfl) rfl #[.string t249, .string t248] rfl (by (try simp only [List.map_toArray, List.map_cons, List.map_nil]); first | done | rfl | (simp only [List.length_drop, List.length_take]; rfl)) ?_; (with_reducible refine (impl_CompareVersions.calls kj19 t249 t248 t258 _ A36.out).mono ?_); rintro e w41 ⟨rfl, hb⟩; refine ⟨_, rfl, ?_⟩; have n0_ := Aside0.mk (below_step (by repeat (first | (with_reducible first | exact HB.out | apply below_alloc | apply pw_below_drewN | apply below_drew1) | exact HB.out)) hb); clear HB; have HB := n0_; clear n0_; (try clear hb); (try clear hb2); (try clear hk); (try clear hi)))
                        go_meet
                        case rel => exact ⟨_, (true), (by first | rfl | (simp; done) | (simp [*]; done)), H', ⟨by have := HJ2.out; have := HJ9.out; have := HJ19.out; first | omega | exact Nat.le_refl _⟩, ⟨by repeat (first | (with_reducible first | exact HB.out | apply below_alloc | apply pw_below_drewN | apply below_drew1) | exact HB.out)⟩⟩
                    case rest =>
                      clear HC34
                      try clear c1
                      try clear c2
                      try clear p2
                      try clear c3
                      try clear c5
                      try clear p6
                      try clear c7
                      try clear c10
                      try clear c11
                      try clear c12
                      try clear c13
                      try clear c14
                      try clear c14b0
                      try clear c14b1
                      try clear c19
                      try clear c22
                      try clear c24
                      try clear c32
                      try clear c37
                      try clear c37b0
                      try clear c37b1
                      try clear p2
                      obtain ⟨kq, x60_33, rfl, HA, HJ33, HB⟩ := hcut
                      cases kq with
                      | zero => exact absurd HA.out (by simp [laws_FnVersionOrder.j3])
                      | succ kj33 =>
                        have H := HA.out
                        clear HA
                        simp only [laws_FnVersionOrder.j3] at H
                        by_cases c42 : x60_33 = true
                        · subst c42
                          have H1 : (some false) = some r := by rw [if_pos rfl] at H; exact H
                          clear H
                          have H := H1
                          clear H1
                          obtain rfl := Option.some.inj H
                          go_wp2
                          go_ret
                          exact ⟨by first | rfl | (simp [errW_none, errW_some] <;> rfl) | (simp [*, errW_none, errW_some] <;> rfl), by repeat (first | (with_reducible first | exact HB.out | apply below_alloc | apply pw_below_drewN | apply below_drew1) | exact HB.out)⟩
                        · replace c42 := Bool.eq_false_iff.mpr c42
                          subst c42
                          have H1 : ((impl_CompareVersions.f kj33 t249 t250).bind fun t260 => (if t257 ≤ 0 then (if t260 ≤ 0 then ((impl_CompareVersions.f kj33 t248 t250).bind fun t261 => (if t261 > 0 then (laws_FnVersionOrder.j4 kj33 t248 true) else (if t257 = 0 then (if t260 = 0 then ((impl_CompareVersions.f kj33 t248 t250).bind fun t262 => (laws_FnVersionOrder.j4 kj33 t248 (t262 != 0))) else (laws_FnVersionOrder.j4 kj33 t248 false)) else (laws_FnVersionOrder.j4 kj33 t248 false)))) else (if t257 = 0 then (if t260 = 0 then ((impl_CompareVersions.f kj33 t248 t250).bind fun t263 => (laws_FnVersionOrder.j4 kj33 t248 (t263 != 0))) else (laws_FnVersionOrder.j4 kj33 t248 false)) else (laws_FnVersionOrder.j4 kj33 t248 false))) else (if t257 = 0 then (if t260 = 0 then ((impl_CompareVersions.f kj33 t248 t250).bind fun t264 => (laws_FnVersionOrder.j4 kj33 t248 (t264 != 0))) else (laws_FnVersionOrder.j4 kj33 t248 false)) else (laws_FnVersionOrder.j4 kj33 t248 false)))) = some r := by rw [if_neg (show ¬ (false = true) by decide)] at H; exact H
                          clear H
                          have H := H1
                          clear H1
                          replace H := Option.bind_eq_some_iff.mp H
                          obtain ⟨t260, A430, H⟩ := H
                          replace H : (if t257 ≤ 0 then (if t260 ≤ 0 then ((impl_CompareVersions.f kj33 t248 t250).bind fun t261 => (if t261 > 0 then (laws_FnVersionOrder.j4 kj33 t248 true) else (if t257 = 0 then (if t260 = 0 then ((impl_CompareVersions.f kj33 t248 t250).bind fun t262 => (laws_FnVersionOrder.j4 kj33 t248 (t262 != 0))) else (laws_FnVersionOrder.j4 kj33 t248 false)) else (laws_FnVersionOrder.j4 kj33 t248 false)))) else (if t257 = 0 then (if t260 = 0 then ((impl_CompareVersions.f kj33 t248 t250).bind fun t263 => (laws_FnVersionOrder.j4 kj33 t248 (t263 != 0))) else (laws_FnVersionOrder.j4 kj33 t248 false)) else (laws_FnVersionOrder.j4 kj33 t248 false))) else (if t257 = 0 then (if t260 = 0 then ((impl_CompareVersions.f kj33 t248 t250).bind fun t264 => (laws_FnVersionOrder.j4 kj33 t248 (t264 != 0))) else (laws_FnVersionOrder.j4 kj33 t248 false)) else (laws_FnVersionOrder.j4 kj33 t248 false))) = some r := H
                          have A43 := Aside0.mk A430
                          clear A430
                          have HC44 := Aside0.mk H
                          clear H
                          go_upto_region 13 with (first | ((with_reducible refine gate_callee (f := 12) rfl ?_); refine goesL_ (some 63) rfl rfl Tryd.func12 (by kernel_rfl) rfl #[.string t249, .string t250] rfl (by (try simp only [List.map_toArray, List.map_cons, List.map_nil]); first | done | rfl | (simp only [List.length_drop, List.length_take]; rfl)) ?_; (with_reducible refine (impl_CompareVersions.calls kj33 t249 t250 t260 _ A43.out).mono ?_); rintro e w45 ⟨rfl, hb⟩; refine ⟨_, rfl, ?_⟩; have n0_ := Aside0.mk (below_step (by repeat (first | (with_reducible first | exact HB.out | apply below_alloc | apply pw_below_drewN | apply below_drew1) | exact HB.out)) hb); clear HB; have HB := n0_; clear n0_; (try clear hb); (try clear hb2); (try clear hk); (try clear hi)))
                          (try simp only [Act.put, List.setIfInBounds_toArray, List.set_cons_zero, List.set_cons_succ])
                          go_cut [89] (fun v89 wc => ∃ (kq : Nat) (x89_43 : Bool), v89 = .bool x89_43 ∧ Aside0 (laws_FnVersionOrder.j4 kq t248 x89_43 = some r) ∧ Aside0 (kq ≤ kj33) ∧ Aside0 (Below w.heap.size w wc))
                          case first =>
                            have H := HC44.out
                            clear HC44
                            by_cases c46 : t257 ≤ 0
                            · rw [if_pos c46] at H
                              have c46b0 : decide (t257 ≤ 0) = true := decide_eq_true c46
                              clear c46
                              (first | rw [c46b0] | (simp only [i64_w, i32_w]; rw [c46b0]) | skip)
                              by_cases c47 : t260 ≤ 0
                              · rw [if_pos c47] at H
                                have c47b0 : decide (t260 ≤ 0) = true := decide_eq_true c47
                                clear c47
                                replace H := Option.bind_eq_some_iff.mp H
                                obtain ⟨t261, A480, H⟩ := H
                                replace H : (if t261 > 0 then (laws_FnVersionOrder.j4 kj33 t248 true) else (if t257 = 0 then (if t260 = 0 then ((impl_CompareVersions.f kj33 t248 t250).bind fun t262 => (laws_FnVersionOrder.j4 kj33 t248 (t262 != 0))) else (laws_FnVersionOrder.j4 kj33 t248 false)) else (laws_FnVersionOrder.j4 kj33 t248 false))) = some r := H
                                have A48 := Aside0.mk A480
                                clear A480
                                by_cases c49 : t261 > 0
                                · rw [if_pos c49] at H
                                  have c49b0 : decide (0 < t261) = true := decide_eq_true c49
                                  clear c49
                                  have H' := Aside0.mk H
                                  clear H
                                  go_wp2_with (first | (go_at_call 12; (with_reducible refine (impl_CompareVersions.calls kj33 t248 t250 t261 _ A48.out).mono ?_); rintro e w50 ⟨rfl, hb⟩; have n0_ := Aside0.mk (below_step (by repeat (first | (with_reducible first | exact HB.out | apply below_alloc | apply pw_below_drewN | apply below_drew1) | exact HB.out)) hb); clear HB; have HB := n0_; clear n0_; (try clear hb); (try clear hb2); (try clear hk); (try clear hi)))
                                  go_meet
                                  case rel => exact ⟨_, (true), (by first | rfl | (simp; done) | (simp [*]; done)), H', ⟨by have := HJ2.out; have := HJ9.out; have := HJ19.out; have := HJ33.out; first | omega | exact Nat.le_refl _⟩, ⟨by repeat (first | (with_reducible first | exact HB.out | apply below_alloc | apply pw_below_drewN | apply below_drew1) | exact HB.out)⟩⟩
                                · rw [if_neg c49] at H
                                  have c49b0 : decide (0 < t261) = false := decide_eq_false c49
                                  clear c49
                                  by_cases c51 : t257 = 0
                                  · rw [if_pos c51] at H
                                    have c51b0 : (t257 == 0) = true := beq_iff_eq.mpr c51
                                    have c51b1 : (t257 != 0) = false := bne_eq_false_iff_eq.mpr c51
                                    clear c51
                                    by_cases c52 : t260 = 0
                                    · rw [if_pos c52] at H
                                      have c52b0 : (t260 == 0) = true := beq_iff_eq.mpr c52
                                      have c52b1 : (t260 != 0) = false := bne_eq_false_iff_eq.mpr c52
                                      clear c52
                                      replace H := Option.bind_eq_some_iff.mp H
                                      obtain ⟨t262, A530, H⟩ := H
                                      replace H : (laws_FnVersionOrder.j4 kj33 t248 (t262 != 0)) = some r := H
                                      have A53 := Aside0.mk A530
                                      clear A530
                                      have H' := Aside0.mk H
                                      clear H
                                      go_wp2_with (first | (go_at_call 12; (with_reducible refine (impl_CompareVersions.calls kj33 t248 t250 t261 _ A48.out).mono ?_); rintro e w54 ⟨rfl, hb⟩; have n0_ := Aside0.mk (below_step (by repeat (first | (with_reducible first | exact HB.out | apply below_alloc | apply pw_below_drewN | apply below_drew1) | exact HB.out)) hb); clear HB; have HB := n0_; clear n0_; (try clear hb); (try clear hb2); (try clear hk); (try clear hi); (try clear A48)) | (go_at_call 12; (with_reducible refine (impl_CompareVersions.calls kj33 t248 t250 t262 _ A53.out).mono ?_); rintro e w55 ⟨rfl, hb⟩; have n0_ := Aside0.mk (below_step (by repeat (first | (with_reducible first | exact HB.out | apply below_alloc | apply pw_below_drewN | apply below_drew1) | exact HB.out)) hb); clear HB; have HB := n0_; clear n0_; (try clear hb); (try clear hb2); (try clear hk); (try clear hi); (try clear A53)))
                                      go_meet
                                      case rel => exact ⟨_, ((t262 != 0)), (by first | rfl | (simp; done) | (simp [*]; done)), H', ⟨by have := HJ2.out; have := HJ9.out; have := HJ19.out; have := HJ33.out; first | omega | exact Nat.le_refl _⟩, ⟨by repeat (first | (with_reducible first | exact HB.out | apply below_alloc | apply pw_below_drewN | apply below_drew1) | exact HB.out)⟩⟩
                                    · rw [if_neg c52] at H
                                      have c52b0 : (t260 == 0) = false := beq_eq_false_iff_ne.mpr c52
                                      have c52b1 : (t260 != 0) = true := bne_iff_ne.mpr c52
                                      have H' := Aside0.mk H
                                      clear H
                                      go_wp2_with (first | (go_at_call 12; (with_reducible refine (impl_CompareVersions.calls kj33 t248 t250 t261 _ A48.out).mono ?_); rintro e w56 ⟨rfl, hb⟩; have n0_ := Aside0.mk (below_step (by repeat (first | (with_reducible first | exact HB.out | apply below_alloc | apply pw_below_drewN | apply below_drew1) | exact HB.out)) hb); clear HB; have HB := n0_; clear n0_; (try clear hb); (try clear hb2); (try clear hk); (try clear hi)))
                                      go_meet
                                      case rel => exact ⟨_, (false), (by first | rfl | (simp; done) | (simp [*]; done)), H', ⟨by have := HJ2.out; have := HJ9.out; have := HJ19.out; have := HJ33.out; first | omega | exact Nat.le_refl _⟩, ⟨by repeat (first | (with_reducible first | exact HB.out | apply below_alloc | apply pw_below_drewN | apply below_drew1) | exact HB.out)⟩⟩
                                  · rw [if_neg c51] at H
                                    have c51b0 : (t257 == 0) = false := beq_eq_false_iff_ne.mpr c51
                                    have c51b1 : (t257 != 0) = true := bne_iff_ne.mpr c51
                                    have H' := Aside0.mk H
                                    clear H
                                    go_wp2_with (first | (go_at_call 12; (with_reducible refine (impl_CompareVersions.calls kj33 t248 t250 t261 _ A48.out).mono ?_); rintro e w57 ⟨rfl, hb⟩; have n0_ := Aside0.mk (below_step (by repeat (first | (with_reducible first | exact HB.out | apply below_alloc | apply pw_below_drewN | apply below_drew1) | exact HB.out)) hb); clear HB; have HB := n0_; clear n0_; (try clear hb); (try clear hb2); (try clear hk); (try clear hi)))
                                    go_meet
                                    case rel => exact ⟨_, (false), (by first | rfl | (simp; done) | (simp [*]; done)), H', ⟨by have := HJ2.out; have := HJ9.out; have := HJ19.out; have := HJ33.out; first | omega | exact Nat.le_refl _⟩, ⟨by repeat (first | (with_reducible first | exact HB.out | apply below_alloc | apply pw_below_drewN | apply below_drew1) | exact HB.out)⟩⟩
                              · rw [if_neg c47] at H
                                have c47b0 : decide (t260 ≤ 0) = false := decide_eq_false c47
                                clear c47
                                by_cases c58 : t257 = 0
                                · rw [if_pos c58] at H
                                  have c58b0 : (t257 == 0) = true := beq_iff_eq.mpr c58
                                  have c58b1 : (t257 != 0) = false := bne_eq_false_iff_eq.mpr c58
                                  clear c58
                                  by_cases c59 : t260 = 0
                                  · rw [if_pos c59] at H
                                    have c59b0 : (t260 == 0) = true := beq_iff_eq.mpr c59
                                    have c59b1 : (t260 != 0) = false := bne_eq_false_iff_eq.mpr c59
                                    clear c59
                                    replace H := Option.bind_eq_some_iff.mp H
                                    obtain ⟨t263, A600, H⟩ := H
                                    replace H : (laws_FnVersionOrder.j4 kj33 t248 (t263 != 0)) = some r := H
                                    have A60 := Aside0.mk A600
                                    clear A600
                                    have H' := Aside0.mk H
                                    clear H
                                    go_wp2_with (first | (go_at_call 12; (with_reducible refine (impl_CompareVersions.calls kj33 t248 t250 t263 _ A60.out).mono ?_); rintro e w61 ⟨rfl, hb⟩; have n0_ := Aside0.mk (below_step (by repeat (first | (with_reducible first | exact HB.out | apply below_alloc | apply pw_below_drewN | apply below_drew1) | exact HB.out)) hb); clear HB; have HB := n0_; clear n0_; (try clear hb); (try clear hb2); (try clear hk); (try clear hi)))
                                    go_meet
                                    case rel => exact ⟨_, ((t263 != 0)), (by first | rfl | (simp; done) | (simp [*]; done)), H', ⟨by have := HJ2.out; have := HJ9.out; have := HJ19.out; have := HJ33.out; first | omega | exact Nat.le_refl _⟩, ⟨by repeat (first | (with_reducible first | exact HB.out | apply below_alloc | apply pw_below_drewN | apply below_drew1) | exact HB.out)⟩⟩
                                  · rw [if_neg c59] at H
                                    have c59b0 : (t260 == 0) = false := beq_eq_false_iff_ne.mpr c59
                                    have c59b1 : (t260 != 0) = true := bne_iff_ne.mpr c59
                                    have H' := Aside0.mk H
                                    clear H
                                    go_wp2
                                    go_meet
                                    case rel => exact ⟨_, (false), (by first | rfl | (simp; done) | (simp [*]; done)), H', ⟨by have := HJ2.out; have := HJ9.out; have := HJ19.out; have := HJ33.out; first | omega | exact Nat.le_refl _⟩, ⟨by repeat (first | (with_reducible first | exact HB.out | apply below_alloc | apply pw_below_drewN | apply below_drew1) | exact HB.out)⟩⟩
                                · rw [if_neg c58] at H
                                  have c58b0 : (t257 == 0) = false := beq_eq_false_iff_ne.mpr c58
                                  have c58b1 : (t257 != 0) = true := bne_iff_ne.mpr c58
                                  have H' := Aside0.mk H
                                  clear H
                                  go_wp2
                                  go_meet
                                  case rel => exact ⟨_, (false), (by first | rfl | (simp; done) | (simp [*]; done)), H', ⟨by have := HJ2.out; have := HJ9.out; have := HJ19.out; have := HJ33.out; first | omega | exact Nat.le_refl _⟩, ⟨by repeat (first | (with_reducible first | exact HB.out | apply below_alloc | apply pw_below_drewN | apply below_drew1) | exact HB.out)⟩⟩
                            · rw [if_neg c46] at H
                              have c46b0 : decide (t257 ≤ 0) = false := decide_eq_false c46
                              clear c46
                              (first | rw [c46b0] | (simp only [i64_w, i32_w]; rw [c46b0]) | skip)
                              by_cases c62 : t257 = 0
                              · rw [if_pos c62] at H
                                have c62b0 : (t257 == 0) = true := beq_iff_eq.mpr c62
                                have c62b1 : (t257 != 0) = false := bne_eq_false_iff_eq.mpr c62
                                clear c62
                                by_cases c63 : t260 = 0
                                · rw [if_pos c63] at H
                                  have c63b0 : (t260 == 0) = true := beq_iff_eq.mpr c63
                                  have c63b1 : (t260 != 0) = false := bne_eq_false_iff_eq.mpr c63
                                  clear c63
                                  replace H := Option.bind_eq_some_iff.mp H
                                  obtain ⟨t264, A640, H⟩ := H
                                  replace H : (laws_FnVersionOrder.j4 kj33 t248 (t264 != 0)) = some r := H
                                  have A64 := Aside0.mk A640
                                  clear A640
                                  have H' := Aside0.mk H
                                  clear H
                                  go_wp2_with (first | (go_at_call 12; (with_reducible refine (impl_CompareVersions.calls kj33 t248 t250 t264 _ A64.out).mono ?_); rintro e w65 ⟨rfl, hb⟩; have n0_ := Aside0.mk (below_step (by repeat (first | (with_reducible first | exact HB.out | apply below_alloc | apply pw_below_drewN | apply below_drew1) | exact HB.out)) hb); clear HB; have HB := n0_; clear n0_; (try clear hb); (try clear hb2); (try clear hk); (try clear hi)))
                                  go_meet
                                  case rel => exact ⟨_, ((t264 != 0)), (by first | rfl | (simp; done) | (simp [*]; done)), H', ⟨by have := HJ2.out; have := HJ9.out; have := HJ19.out; have := HJ33.out; first | omega | exact Nat.le_refl _⟩, ⟨by repeat (first | (with_reducible first | exact HB.out | apply below_alloc | apply pw_below_drewN | apply below_drew1) | exact HB.out)⟩⟩
                                · rw [if_neg c63] at H
                                  have c63b0 : (t260 == 0) = false := beq_eq_false_iff_ne.mpr c63
                                  have c63b1 : (t260 != 0) = true := bne_iff_ne.mpr c63
                                  have H' := Aside0.mk H
                                  clear H
                                  go_wp2
                                  go_meet
                                  case rel => exact ⟨_, (false), (by first | rfl | (simp; done) | (simp [*]; done)), H', ⟨by have := HJ2.out; have := HJ9.out; have := HJ19.out; have := HJ33.out; first | omega | exact Nat.le_refl _⟩, ⟨by repeat (first | (with_reducible first | exact HB.out | apply below_alloc | apply pw_below_drewN | apply below_drew1) | exact HB.out)⟩⟩
                              · rw [if_neg c62] at H
                                have c62b0 : (t257 == 0) = false := beq_eq_false_iff_ne.mpr c62
                                have c62b1 : (t257 != 0) = true := bne_iff_ne.mpr c62
                                have H' := Aside0.mk H
                                clear H
                                go_wp2
                                go_meet
                                case rel => exact ⟨_, (false), (by first | rfl | (simp; done) | (simp [*]; done)), H', ⟨by have := HJ2.out; have := HJ9.out; have := HJ19.out; have := HJ33.out; first | omega | exact Nat.le_refl _⟩, ⟨by repeat (first | (with_reducible first | exact HB.out | apply below_alloc | apply pw_below_drewN | apply below_drew1) | exact HB.out)⟩⟩
                          case rest =>
                            clear HC44
                            try clear c1
                            try clear c2
                            try clear p2
                            try clear c3
                            try clear c4
                            try clear c5
                            try clear c6
                            try clear p6
                            try clear c7
                            try clear c10
                            try clear c11
                            try clear c12
                            try clear c13
                            try clear c14
                            try clear c14b0
                            try clear c14b1
                            try clear c19
                            try clear c22
                            try clear c24
                            try clear c32
                            try clear c37
                            try clear c37b0
                            try clear c37b1
                            try clear c42
                            try clear c46
                            try clear c46b0
                            try clear c47
                            try clear c47b0
                            try clear c49
                            try clear c49b0
                            try clear c51
                            try clear c51b0
                            try clear c51b1
                            try clear c52
                            try clear c52b0
                            try clear c52b1
                            try clear c58
                            try clear c58b0
                            try clear c58b1
                            try clear c59
                            try clear c59b0
                            try clear c59b1
                            try clear c62
                            try clear c62b0
                            try clear c62b1
                            try clear c63
                            try clear c63b0
                            try clear c63b1
                            try clear p64
                            try clear p2
                            try clear p6
                            obtain ⟨kq, x89_43, rfl, HA, HJ43, HB⟩ := hcut
                            cases kq with
                            | zero => exact absurd HA.out (by simp [laws_FnVersionOrder.j4])
                            | succ kj43 =>
                              have H := HA.out
                              clear HA
                              simp only [laws_FnVersionOrder.j4] at H
                              by_cases c66 : x89_43 = true
                              · subst c66
                                have H1 : (some false) = some r := by rw [if_pos rfl] at H; exact H
                                clear H
                                have H := H1
                                clear H1
                                obtain rfl := Option.some.inj H
                                go_wp2
                                go_ret
                                exact ⟨by first | rfl | (simp [errW_none, errW_some] <;> rfl) | (simp [*, errW_none, errW_some] <;> rfl), by repeat (first | (with_reducible first | exact HB.out | apply below_alloc | apply pw_below_drewN | apply below_drew1) | exact HB.out)⟩
                              · replace c66 := Bool.eq_false_iff.mpr c66
                                subst c66
                                have H1 : (if (wrap64 ((t248.size : Int) + 2)) > 30 then (some true) else (if t248.size + 2 ≤ 9223372036854775807 then ((impl_CompareVersions.f kj43 (t248 ++ (⟨#[46, 48]⟩ : ByteArray)) t248).bind fun t265 => (if t265 = 1 then ((impl_CompareVersions.f kj43 (t248 ++ (⟨#[45, 97]⟩ : ByteArray)) t248).bind fun t266 => (some (t266 == (-1)))) else (some false))) else (none))) = some r := by rw [if_neg (show ¬ (false = true) by decide)] at H; exact H
                                clear H
                                have H := H1
                                clear H1
                                by_cases c67 : (wrap64 ((t248.size : Int) + 2)) > 30
                                · rw [if_pos c67] at H
                                  have c67b0 : decide (30 < (wrap64 ((t248.size : Int) + 2))) = true := decide_eq_true c67
                                  clear c67
                                  obtain rfl := Option.some.inj H
                                  go_wp2
                                  go_ret
                                  exact ⟨by first | rfl | (simp [errW_none, errW_some] <;> rfl) | (simp [*, errW_none, errW_some] <;> rfl), by repeat (first | (with_reducible first | exact HB.out | apply below_alloc | apply pw_below_drewN | apply below_drew1) | exact HB.out)⟩
                                · rw [if_neg c67] at H
                                  have c67b0 : decide (30 < (wrap64 ((t248.size : Int) + 2))) = false := decide_eq_false c67
                                  clear c67
                                  by_cases c68 : t248.size + 2 ≤ 9223372036854775807
                                  · rw [if_pos c68] at H
                                    have c68b0 := eq_true c68
                                    have c68b1 : decide (t248.size + 2 ≤ 9223372036854775807) = true := decide_eq_true c68
                                    (try (have c67b0w := c67b0; rw [show wrap64 ((t248.size : Int) + 2) = ((t248.size : Int) + 2) from by unfold wrap64; omega] at c67b0w))
                                    (try (have c67b0w := c67b0; rw [show wrap64 ((t248.size : Int) + 2) = ((t248.size : Int) + 2) from by unfold wrap64; omega] at c67b0w))
                                    try have c68b2 : (9223372036854775807 < t248.size + 2) = False := eq_false (Nat.not_lt.2 c68)
                                    replace H := Option.bind_eq_some_iff.mp H
                                    obtain ⟨t265, A690, H⟩ := H
                                    replace H : (if t265 = 1 then ((impl_CompareVersions.f kj43 (t248 ++ (⟨#[45, 97]⟩ : ByteArray)) t248).bind fun t266 => (some (t266 == (-1)))) else (some false)) = some r := H
                                    have A69 := Aside0.mk A690
                                    clear A690
                                    by_cases c70 : t265 = 1
                                    · rw [if_pos c70] at H
                                      have c70b0 : (t265 == 1) = true := beq_iff_eq.mpr c70
                                      have c70b1 : (t265 != 1) = false := bne_eq_false_iff_eq.mpr c70
                                      clear c70
                                      replace H := Option.bind_eq_some_iff.mp H
                                      obtain ⟨t266, A710, H⟩ := H
                                      replace H : (some (t266 == (-1))) = some r := H
                                      have A71 := Aside0.mk A710
                                      clear A710
                                      obtain rfl := Option.some.inj H
                                      go_wp2_with (first | ((with_reducible refine gate_callee (f := 12) rfl ?_); refine goesL_ (some 97) rfl rfl Tryd.func12 (by kernel_rfl) rfl #[.string (t248 ++ (⟨#[46, 48]⟩ : ByteArray)), .string t248] rfl (by (try simp only [List.map_toArray, List.map_cons, List.map_nil]); first | done | rfl | (simp only [List.length_drop, List.length_take]; rfl)) ?_; (with_reducible refine (impl_CompareVersions.calls kj43 (t248 ++ (⟨#[46, 48]⟩ : ByteArray)) t248 t265 _ A69.out).mono ?_); rintro e w72 ⟨rfl, hb⟩; refine ⟨_, rfl, ?_⟩; have n0_ := Aside0.mk (below_step (by repeat (first | (with_reducible first | exact HB.out | apply below_alloc | apply pw_below_drewN | apply below_drew1) | exact HB.out)) hb); clear HB; have HB := n0_; clear n0_; (try clear hb); (try clear hb2); (try clear hk); (try clear hi)) | (go_at_call 12; (with_reducible refine (impl_CompareVersions.calls kj43 (t248 ++ (⟨#[45, 97]⟩ : ByteArray)) t248 t266 _ A71.out).mono ?_); rintro e w73 ⟨rfl, hb⟩; have n0_ := Aside0.mk (below_step (by repeat (first | (with_reducible first | exact HB.out | apply below_alloc | apply pw_below_drewN | apply below_drew1) | exact HB.out)) hb); clear HB; have HB := n0_; clear n0_; (try clear hb); (try clear hb2); (try clear hk); (try clear hi)))
                                      go_ret
                                      exact ⟨by first | rfl | (simp [errW_none, errW_some] <;> rfl) | (simp [*, errW_none, errW_some] <;> rfl), by repeat (first | (with_reducible first | exact HB.out | apply below_alloc | apply pw_below_drewN | apply below_drew1) | exact HB.out)⟩
                                    · rw [if_neg c70] at H
                                      have c70b0 : (t265 == 1) = false := beq_eq_false_iff_ne.mpr c70
                                      have c70b1 : (t265 != 1) = true := bne_iff_ne.mpr c70
                                      obtain rfl := Option.some.inj H
                                      go_wp2_with (first | ((with_reducible refine gate_callee (f := 12) rfl ?_); refine goesL_ (some 97) rfl rfl Tryd.func12 (by kernel_rfl) rfl #[.string (t248 ++ (⟨#[46, 48]⟩ : ByteArray)), .string t248] rfl (by (try simp only [List.map_toArray, List.map_cons, List.map_nil]); first | done | rfl | (simp only [List.length_drop, List.length_take]; rfl)) ?_; (with_reducible refine (impl_CompareVersions.calls kj43 (t248 ++ (⟨#[46, 48]⟩ : ByteArray)) t248 t265 _ A69.out).mono ?_); rintro e w74 ⟨rfl, hb⟩; refine ⟨_, rfl, ?_⟩; have n0_ := Aside0.mk (below_step (by repeat (first | (with_reducible first | exact HB.out | apply below_alloc | apply pw_below_drewN | apply below_drew1) | exact HB.out)) hb); clear HB; have HB := n0_; clear n0_; (try clear hb); (try clear hb2); (try clear hk); (try clear hi)))
                                      go_ret
                                      exact ⟨by first | rfl | (simp [errW_none, errW_some] <;> rfl) | (simp [*, errW_none, errW_some] <;> rfl), by repeat (first | (with_reducible first | exact HB.out | apply below_alloc | apply pw_below_drewN | apply below_drew1) | exact HB.out)⟩
                                  · rw [if_neg c68] at H
                                    exact absurd H (by simp)
end Go.Proofs.YtgknoemegejlkaaDoor.P
end
