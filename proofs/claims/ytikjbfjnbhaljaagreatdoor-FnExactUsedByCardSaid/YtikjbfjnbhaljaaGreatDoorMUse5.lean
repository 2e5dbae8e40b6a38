/- Texts of Use, put together by program. -/
import Derived.Test.YtikjbfjnbhaljaaGreatDoorMUse2
import Derived.Test.YtikjbfjnbhaljaaGreatDoorMUse3
import Derived.Test.YtikjbfjnbhaljaaGreatDoorMUse4

section
namespace Go.Proofs.YtikjbfjnbhaljaaGreatDoor.P
open Go.RowKit Go.Proofs.YtikjbfjnbhaljaaGreatDoorW.PrintWords Go.Proofs.YtikjbfjnbhaljaaGreatDoorW.PrintLast Go.Proofs.YtikjbfjnbhaljaaGreatDoorW.PrintMore Go.Proofs.YtikjbfjnbhaljaaGreatDoorM
attribute [local go_sem] max2_int min2_int max_two min_two max_three min_three max_four min_four
set_option linter.unusedVariables false
set_option linter.unusedSimpArgs false
set_option maxHeartbeats 8000000
set_option maxRecDepth 100000
mutual
def impl_RefsIn.j0 : Nat → List (S57) → List ByteArray → Bool → Option (List ByteArray)
 | 0, _, _, _ => none
 | k + 1, x0, x1, x17 => if x17 = true then (some ([] : List ByteArray)) else (impl_RefsIn.l0 k x0 (([] : List (ByteArray × Int))) x1 (x1.length : Int) 0)
def impl_RefsIn.l0 : Nat → List (S57) → List (ByteArray × Int) → List ByteArray → Int → Int → Option (List ByteArray)
 | 0, _, _, _, _, _ => none
 | k + 1, x0, x5, x19, x20, x21 => if x21 < x20 then (if 0 ≤ x21 then (if x21 < (x19.length : Int) then ((impl_AddressOk.f k (rdOf ByteArray.empty x19 x21)).bind fun t441 => (if t441 = true then (impl_RefsIn.l1 k x0 x5 (rdOf ByteArray.empty x19 x21) x19 x20 x21 x0 (x0.length : Int) 0) else (impl_RefsIn.l0 k x0 x5 x19 x20 (wrap64 (x21 + 1))))) else (none)) else (none)) else ((impl_sorted.f x5).bind fun t437 => (some t437))
def impl_RefsIn.l1 : Nat → List (S57) → List (ByteArray × Int) → ByteArray → List ByteArray → Int → Int → List (S57) → Int → Int → Option (List ByteArray)
 | 0, _, _, _, _, _, _, _, _, _ => none
 | k + 1, x0, x5, x7, x19, x20, x21, x28, x29, x30 => if x30 < x29 then (if 0 ≤ x30 then (if x30 < (x28.length : Int) then (if 0 ≤ 13 then (if 13 ≤ (x7.size : Int) then ((strings_Contains.f ((rd_T57 x28 x30).f2) (x7.extract 0 13)).bind fun t444 => (if t444 = true then (if x5.length < 1099511627776 then (if x7.size ≤ 9223372036854775807 then (impl_RefsIn.l0 k x0 (x5 ++ [(x7, 1)]) x19 x20 (wrap64 (x21 + 1))) else (none)) else (none)) else (impl_RefsIn.l1 k x0 x5 x7 x19 x20 x21 x28 x29 (wrap64 (x30 + 1))))) else (none)) else (none)) else (none)) else (none)) else (impl_RefsIn.l0 k x0 x5 x19 x20 (wrap64 (x21 + 1)))
end
def impl_RefsIn.f (k : Nat) (l0 : List (S57)) (l1 : List ByteArray) : Option (List ByteArray) := (impl_TreeOk.f k l0).bind fun t433 => (if t433 = true then (impl_RefsIn.j0 k l0 l1 (decide ((l1.length : Int) > 2000))) else (impl_RefsIn.j0 k l0 l1 true))
theorem impl_RefsIn.mono_l : ∀ k, (∀ y0 y1 y2, LeO (impl_RefsIn.j0 k y0 y1 y2) (impl_RefsIn.j0 (k + 1) y0 y1 y2)) ∧ (∀ y0 y1 y2 y3 y4, LeO (impl_RefsIn.l0 k y0 y1 y2 y3 y4) (impl_RefsIn.l0 (k + 1) y0 y1 y2 y3 y4)) ∧ (∀ y0 y1 y2 y3 y4 y5 y6 y7 y8, LeO (impl_RefsIn.l1 k y0 y1 y2 y3 y4 y5 y6 y7 y8) (impl_RefsIn.l1 (k + 1) y0 y1 y2 y3 y4 y5 y6 y7 y8))
 | 0 => ⟨fun _ _ _ r h => by simp [impl_RefsIn.j0] at h, fun _ _ _ _ _ r h => by simp [impl_RefsIn.l0] at h, fun _ _ _ _ _ _ _ _ _ r h => by simp [impl_RefsIn.l1] at h⟩
 | k + 1 => by
      obtain ⟨ih0, ih1, ih2⟩ := impl_RefsIn.mono_l k
      refine ⟨?_, ?_, ?_⟩
      {
      intro y0 y1 y2
      unfold impl_RefsIn.j0
      repeat' first
      | (with_reducible exact ih0 _ _ _)
      | (with_reducible exact ih1 _ _ _ _ _)
      | (with_reducible exact ih2 _ _ _ _ _ _ _ _ _)
      | (with_reducible exact impl_AddressOk.mono _ _)
      | (with_reducible exact impl_TreeOk.mono _ _)
      | (with_reducible exact LeO.refl _)
      | (with_reducible exact LeO.none _)
      | (with_reducible refine LeO.ite ?_ ?_)
      | (with_reducible refine LeO.bind ?_ (fun _ => ?_))
      | exact ih0 _ _ _
      | exact ih1 _ _ _ _ _
      | exact ih2 _ _ _ _ _ _ _ _ _
      | exact impl_AddressOk.mono _ _
      | exact impl_TreeOk.mono _ _
      | exact LeO.none _
      | refine LeO.ite ?_ ?_
      | refine LeO.bind ?_ (fun _ => ?_)}
      {
      intro y0 y1 y2 y3 y4
      unfold impl_RefsIn.l0
      repeat' first
      | (with_reducible exact ih0 _ _ _)
      | (with_reducible exact ih1 _ _ _ _ _)
      | (with_reducible exact ih2 _ _ _ _ _ _ _ _ _)
      | (with_reducible exact impl_AddressOk.mono _ _)
      | (with_reducible exact impl_TreeOk.mono _ _)
      | (with_reducible exact LeO.refl _)
      | (with_reducible exact LeO.none _)
      | (with_reducible refine LeO.ite ?_ ?_)
      | (with_reducible refine LeO.bind ?_ (fun _ => ?_))
      | exact ih0 _ _ _
      | exact ih1 _ _ _ _ _
      | exact ih2 _ _ _ _ _ _ _ _ _
      | exact impl_AddressOk.mono _ _
      | exact impl_TreeOk.mono _ _
      | exact LeO.none _
      | refine LeO.ite ?_ ?_
      | refine LeO.bind ?_ (fun _ => ?_)}
      {
      intro y0 y1 y2 y3 y4 y5 y6 y7 y8
      unfold impl_RefsIn.l1
      repeat' first
      | (with_reducible exact ih0 _ _ _)
      | (with_reducible exact ih1 _ _ _ _ _)
      | (with_reducible exact ih2 _ _ _ _ _ _ _ _ _)
      | (with_reducible exact impl_AddressOk.mono _ _)
      | (with_reducible exact impl_TreeOk.mono _ _)
      | (with_reducible exact LeO.refl _)
      | (with_reducible exact LeO.none _)
      | (with_reducible refine LeO.ite ?_ ?_)
      | (with_reducible refine LeO.bind ?_ (fun _ => ?_))
      | exact ih0 _ _ _
      | exact ih1 _ _ _ _ _
      | exact ih2 _ _ _ _ _ _ _ _ _
      | exact impl_AddressOk.mono _ _
      | exact impl_TreeOk.mono _ _
      | exact LeO.none _
      | refine LeO.ite ?_ ?_
      | refine LeO.bind ?_ (fun _ => ?_)}
theorem impl_RefsIn.mono : ∀ a0 a1 k, LeO (impl_RefsIn.f k a0 a1) (impl_RefsIn.f (k + 1) a0 a1) := by
 intro a0 a1 k
 obtain ⟨ih0, ih1, ih2⟩ := impl_RefsIn.mono_l k
 unfold impl_RefsIn.f
 repeat' first
  | (with_reducible exact ih0 _ _ _)
  | (with_reducible exact ih1 _ _ _ _ _)
  | (with_reducible exact ih2 _ _ _ _ _ _ _ _ _)
  | (with_reducible exact impl_AddressOk.mono _ _)
  | (with_reducible exact impl_TreeOk.mono _ _)
  | (with_reducible exact LeO.refl _)
  | (with_reducible exact LeO.none _)
  | (with_reducible refine LeO.ite ?_ ?_)
  | (with_reducible refine LeO.bind ?_ (fun _ => ?_))
  | exact ih0 _ _ _
  | exact ih1 _ _ _ _ _
  | exact ih2 _ _ _ _ _ _ _ _ _
  | exact impl_AddressOk.mono _ _
  | exact impl_TreeOk.mono _ _
  | exact LeO.none _
  | refine LeO.ite ?_ ?_
  | refine LeO.bind ?_ (fun _ => ?_)
theorem impl_RefsIn.calls (k : Nat) (A0 : Option Addr) (c0 : Nat) (l0 : List (S57)) (A1 : Option Addr) (c1 : Nat) (l1 : List ByteArray) (r : List ByteArray) (w : World) (hE : EnvW w) (hr0 : Kd.C k57 w A0 l0.length l0) (hc0 : l0.length ≤ c0) (hr1 : Kd.C Kd.string w A1 l1.length l1) (hc1 : l1.length ≤ c1) (h : impl_RefsIn.f k l0 l1 = some r) :
 Calls Tryz.prog 52 #[.slice A0 l0.length c0, .slice A1 l1.length c1] w fun e w' => ∃ v0_ : Value, e = .returned (v0_) ∧ Kd.R Kd.string 9 w' w.heap.size (fun _ => True) v0_ r ∧ Below w.heap.size w w' := by
 have hu57 := Tryz.underlying57
 have HE := Aside0.mk hE
 clear hE
 have HR0 := Aside0.mk hr0
 have HC0 := Aside0.mk hc0
 clear hr0 hc0
 have HR1 := Aside0.mk hr1
 have HC1 := Aside0.mk hc1
 clear hr1 hc1
 have HB := Aside0.mk (Below.refl w.heap.size w)
 have H : ((impl_TreeOk.f k l0).bind fun t433 => (if t433 = true then (impl_RefsIn.j0 k l0 l1 (decide ((l1.length : Int) > 2000))) else (impl_RefsIn.j0 k l0 l1 true))) = some r := h
 clear h
 have HC3 := Aside0.mk H
 clear H
 go_enter Tryz.func52, Tryz.ntmps52
 go_upto_region 1 with (fail)
 repeat (go_quiet (fail); go_upto_region 1 with (fail))
 go_cut [17] (fun v17 wc => ∃ (kq : Nat) (x17_2 : Bool), v17 = .bool x17_2 ∧ Aside0 (impl_RefsIn.j0 kq l0 l1 x17_2 = some r) ∧ Aside0 (kq ≤ k) ∧ Aside0 (Below w.heap.size w wc))
 case first =>
  have H := HC3.out
  clear HC3
  replace H := Option.bind_eq_some_iff.mp H
  obtain ⟨t433, A40, H⟩ := H
  have A4 := Aside0.mk A40
  clear A40
  by_cases c5 : t433 = true
  {
  subst c5
  rw [if_pos rfl] at H
  have H' := Aside0.mk H
  clear H
  go_wp2_with (first | (go_at_call 77; (with_reducible refine (impl_TreeOk.calls k _ _ l0 true _ ?side1 ?side2 ?side3 A4.out).mono ?_); (case side1 => refine EnvW.below HE.out ?_; repeat (first | (with_reducible first | exact HB.out | apply below_alloc | apply pw_below_drewN | apply below_drew1) | exact HB.out)); (case side2 => exact cS_ HR0 HB); (case side3 => exact HC0.out); rintro e w6 ⟨rfl, hb⟩; replace HB := Aside0.mk (below_step (bw_ HB) hb); clear hb))
  repeat (go_quiet (first | (go_at_call 77; (with_reducible refine (impl_TreeOk.calls k _ _ l0 true _ ?side1 ?side2 ?side3 A4.out).mono ?_); (case side1 => refine EnvW.below HE.out ?_; repeat (first | (with_reducible first | exact HB.out | apply below_alloc | apply pw_below_drewN | apply below_drew1) | exact HB.out)); (case side2 => exact cS_ HR0 HB); (case side3 => exact HC0.out); rintro e w6 ⟨rfl, hb⟩; replace HB := Aside0.mk (below_step (bw_ HB) hb); clear hb)); try go_wp2_with (first | (go_at_call 77; (with_reducible refine (impl_TreeOk.calls k _ _ l0 true _ ?side1 ?side2 ?side3 A4.out).mono ?_); (case side1 => refine EnvW.below HE.out ?_; repeat (first | (with_reducible first | exact HB.out | apply below_alloc | apply pw_below_drewN | apply below_drew1) | exact HB.out)); (case side2 => exact cS_ HR0 HB); (case side3 => exact HC0.out); rintro e w6 ⟨rfl, hb⟩; replace HB := Aside0.mk (below_step (bw_ HB) hb); clear hb)))
  go_meet
  case rel => exact ⟨_, (decide ((l1.length : Int) > 2000)), (by first | rfl | (simp; done) | (simp [*]; done)), H', ⟨by first | omega | exact Nat.le_refl _⟩, ⟨bw_ HB⟩⟩}
  {
  replace c5 := Bool.eq_false_iff.mpr c5
  subst c5
  rw [if_neg (show ¬ (false = true) by decide)] at H
  have H' := Aside0.mk H
  clear H
  go_wp2_with (first | (go_at_call 77; (with_reducible refine (impl_TreeOk.calls k _ _ l0 false _ ?side1 ?side2 ?side3 A4.out).mono ?_); (case side1 => refine EnvW.below HE.out ?_; repeat (first | (with_reducible first | exact HB.out | apply below_alloc | apply pw_below_drewN | apply below_drew1) | exact HB.out)); (case side2 => exact cS_ HR0 HB); (case side3 => exact HC0.out); rintro e w7 ⟨rfl, hb⟩; replace HB := Aside0.mk (below_step (bw_ HB) hb); clear hb))
  repeat (go_quiet (first | (go_at_call 77; (with_reducible refine (impl_TreeOk.calls k _ _ l0 false _ ?side1 ?side2 ?side3 A4.out).mono ?_); (case side1 => refine EnvW.below HE.out ?_; repeat (first | (with_reducible first | exact HB.out | apply below_alloc | apply pw_below_drewN | apply below_drew1) | exact HB.out)); (case side2 => exact cS_ HR0 HB); (case side3 => exact HC0.out); rintro e w7 ⟨rfl, hb⟩; replace HB := Aside0.mk (below_step (bw_ HB) hb); clear hb)); try go_wp2_with (first | (go_at_call 77; (with_reducible refine (impl_TreeOk.calls k _ _ l0 false _ ?side1 ?side2 ?side3 A4.out).mono ?_); (case side1 => refine EnvW.below HE.out ?_; repeat (first | (with_reducible first | exact HB.out | apply below_alloc | apply pw_below_drewN | apply below_drew1) | exact HB.out)); (case side2 => exact cS_ HR0 HB); (case side3 => exact HC0.out); rintro e w7 ⟨rfl, hb⟩; replace HB := Aside0.mk (below_step (bw_ HB) hb); clear hb)))
  go_meet
  case rel => exact ⟨_, (true), (by first | rfl | (simp; done) | (simp [*]; done)), H', ⟨by first | omega | exact Nat.le_refl _⟩, ⟨bw_ HB⟩⟩}
 case rest =>
  clear HC3
  try clear c1
  try clear p2
  try clear c5
  obtain ⟨kq, x17_2, rfl, HA, HJ2, HB⟩ := hcut
  cases kq with
  | zero => exact absurd HA.out (by simp [impl_RefsIn.j0])
  | succ kj2 =>
       have H := HA.out
       clear HA
       simp only [impl_RefsIn.j0] at H
       by_cases c8 : x17_2 = true
       {
       subst c8
       rw [if_pos rfl] at H
       obtain rfl := Option.some.inj H
       go_wp2
       repeat (go_quiet (fail); try go_wp2)
       go_ret
       exact ⟨_, eR_, by first | exact Kd.R_nil _ _ _ _ _ | exact Kd.N_nil _ _ _ _ _ | exact Kd.V_nil _ _ _ _ _ | exact Kd.Q_nil _ _ _ _ _ | exact Kd.S_nil _ _ _ _ _, bw_ HB⟩}
       {
       replace c8 := Bool.eq_false_iff.mpr c8
       subst c8
       rw [if_neg (show ¬ (false = true) by decide)] at H
       obtain ⟨y434, hy434⟩ : ∃ y_ : List (ByteArray × Int), y_ = (([] : List (ByteArray × Int))) := ⟨_, rfl⟩
       replace H : (impl_RefsIn.l0 kj2 l0 y434 l1 (l1.length : Int) 0) = some r := rH_ hy434 H
       have Ny434 := Aside0.mk hy434
       clear hy434
       have H' := Aside0.mk H
       clear H
       go_wp2_with (first | ((with_reducible refine gate_dst (N := 18) rfl ?_); (try (refine gate_guard (by rfl) ?_; dsimp only)); refine map_new (kkStr Tryz.prog 9 Tryz.underlying9) ekI64 rfl (N := 18) rfl 99 rfl ?_; intro gm436 gg10 w9 hmp hb; rw [← Ny434.out] at hmp; have HM435 := Aside0.mk (hmp); have GMgm436 := Aside0.mk (ge_ gg10 (bw_ HB)); replace HB := Aside0.mk (below_step (bw_ HB) hb); clear hb hmp gg10))
       repeat (go_quiet (first | ((with_reducible refine gate_dst (N := 18) rfl ?_); (try (refine gate_guard (by rfl) ?_; dsimp only)); refine map_new (kkStr Tryz.prog 9 Tryz.underlying9) ekI64 rfl (N := 18) rfl 99 rfl ?_; intro gm436 gg10 w9 hmp hb; rw [← Ny434.out] at hmp; have HM435 := Aside0.mk (hmp); have GMgm436 := Aside0.mk (ge_ gg10 (bw_ HB)); replace HB := Aside0.mk (below_step (bw_ HB) hb); clear hb hmp gg10)); try go_wp2_with (first | ((with_reducible refine gate_dst (N := 18) rfl ?_); (try (refine gate_guard (by rfl) ?_; dsimp only)); refine map_new (kkStr Tryz.prog 9 Tryz.underlying9) ekI64 rfl (N := 18) rfl 99 rfl ?_; intro gm436 gg10 w9 hmp hb; rw [← Ny434.out] at hmp; have HM435 := Aside0.mk (hmp); have GMgm436 := Aside0.mk (ge_ gg10 (bw_ HB)); replace HB := Aside0.mk (below_step (bw_ HB) hb); clear hb hmp gg10)))
       go_loopg [21] kj2 (fun kq v21 w' => ∃ (x5_2 : List (ByteArray × Int)) (x21_2 : Int), v21 = .int .i64 x21_2 ∧ Aside0 (impl_RefsIn.l0 kq l0 x5_2 l1 (l1.length : Int) x21_2 = some r) ∧ Aside0 (kq ≤ kj2) ∧ Aside0 (MapAt (kkStr Tryz.prog 9 Tryz.underlying9) ekI64 w' gm436 x5_2) ∧ Aside0 (Below w.heap.size w w'))
       case atStart => exact ⟨(y434), (0), (by first | rfl | (simp; done) | (simp [*]; done)), H', ⟨Nat.le_refl _⟩, ⟨mp_ HM435⟩, ⟨bw_ HB⟩⟩
       case round =>
        clear H'
        try clear c1
        try clear p2
        try clear c5
        try clear c8
        try clear p2
        obtain ⟨x5_2, x21_2, rfl, HA, HK2, HM_5, HB⟩ := hrel
        cases gk with
        | zero => exact absurd HA.out (by simp [impl_RefsIn.l0])
        | succ k2 =>
             have H := HA.out
             clear HA
             simp only [impl_RefsIn.l0] at H
             by_cases c11 : x21_2 < (l1.length : Int)
             {
             rw [if_pos c11] at H
             have c11b0 := decide_eq_true c11
             clear c11
             by_cases c12 : 0 ≤ x21_2
             {
             rw [if_pos c12] at H
             have c12b0 := decide_eq_true c12
             clear c12
             by_cases c13 : x21_2 < (l1.length : Int)
             {
             rw [if_pos c13] at H
             have c13b0 := decide_eq_true c13
             clear c13
             replace H := Option.bind_eq_some_iff.mp H
             obtain ⟨t441, A140, H⟩ := H
             have A14 := Aside0.mk A140
             clear A140
             by_cases c15 : t441 = true
             {
             subst c15
             rw [if_pos rfl] at H
             have H' := Aside0.mk H
             clear H
             have p440 : 0 ≤ (x21_2 : Int) := dA_
             have q440 : x21_2 < (l1.length : Int) := dA_
             obtain ⟨ad440, e440, hx440_0⟩ := Kd.at_string HR1.out x21_2 p440 q440
             cases e440
             replace hx440_0 := hX_ HB hx440_0
             replace p440 := eq_true p440
             replace q440 := eq_true q440
             go_wp2_with (first | (go_at_call 76; (with_reducible refine (impl_AddressOk.calls k2 (rdOf ByteArray.empty l1 x21_2) true _ A14.out).mono ?_); rintro e w' ⟨rfl, ⟨nd, rfl⟩⟩; (try first | exact ⟨rfl, _, World.drewN_drewN _ _ _⟩ | exact ⟨rfl, _, Eq.trans (World.drewN_drewN _ _ _) (congrArg (World.drewN _) (Nat.add_assoc _ _ _))⟩)))
             repeat (go_quiet (first | (go_at_call 76; (with_reducible refine (impl_AddressOk.calls k2 (rdOf ByteArray.empty l1 x21_2) true _ A14.out).mono ?_); rintro e w' ⟨rfl, ⟨nd, rfl⟩⟩; (try first | exact ⟨rfl, _, World.drewN_drewN _ _ _⟩ | exact ⟨rfl, _, Eq.trans (World.drewN_drewN _ _ _) (congrArg (World.drewN _) (Nat.add_assoc _ _ _))⟩))); try go_wp2_with (first | (go_at_call 76; (with_reducible refine (impl_AddressOk.calls k2 (rdOf ByteArray.empty l1 x21_2) true _ A14.out).mono ?_); rintro e w' ⟨rfl, ⟨nd, rfl⟩⟩; (try first | exact ⟨rfl, _, World.drewN_drewN _ _ _⟩ | exact ⟨rfl, _, Eq.trans (World.drewN_drewN _ _ _) (congrArg (World.drewN _) (Nat.add_assoc _ _ _))⟩))))
             go_loopg [30] k2 (fun kq v30 w' => ∃ (x5_3 : List (ByteArray × Int)) (x30_3 : Int), v30 = .int .i64 x30_3 ∧ Aside0 (impl_RefsIn.l1 kq l0 x5_3 (rdOf ByteArray.empty l1 x21_2) l1 (l1.length : Int) x21_2 l0 (l0.length : Int) x30_3 = some r) ∧ Aside0 (kq ≤ k2) ∧ Aside0 (MapAt (kkStr Tryz.prog 9 Tryz.underlying9) ekI64 w' gm436 x5_3) ∧ Aside0 (Below w.heap.size w w'))
             case atStart => exact ⟨(x5_2), (0), (by first | rfl | (simp; done) | (simp [*]; done)), H', ⟨Nat.le_refl _⟩, ⟨mp_ HM_5⟩, ⟨bw_ HB⟩⟩
             case round =>
              clear H'
              try clear c1
              try clear p2
              try clear p4
              try clear q4
              try clear hx4
              try clear c5
              try clear p6
              try clear c8
              try clear c11
              try clear c11b0
              try clear c12
              try clear c12b0
              try clear c13
              try clear c13b0
              try clear c15
              try clear hx440_0
              try clear p2
              try clear p440
              try clear q440
              obtain ⟨x5_3, x30_3, rfl, HA, HK3, HM_5, HB⟩ := hrel
              cases gk with
              | zero => exact absurd HA.out (by simp [impl_RefsIn.l1])
              | succ k3 =>
                   have H := HA.out
                   clear HA
                   simp only [impl_RefsIn.l1] at H
                   by_cases c16 : x30_3 < (l0.length : Int)
                   {
                   rw [if_pos c16] at H
                   have c16b0 := decide_eq_true c16
                   clear c16
                   by_cases c17 : 0 ≤ x30_3
                   {
                   rw [if_pos c17] at H
                   have c17b0 := decide_eq_true c17
                   clear c17
                   by_cases c18 : x30_3 < (l0.length : Int)
                   {
                   rw [if_pos c18] at H
                   have c18b0 := decide_eq_true c18
                   clear c18
                   by_cases c19 : 0 ≤ 13
                   {
                   rw [if_pos c19] at H
                   have c19b0 := eq_true c19
                   have c19b1 := decide_eq_true c19
                   clear c19
                   by_cases c20 : 13 ≤ ((rdOf ByteArray.empty l1 x21_2).size : Int)
                   {
                   rw [if_pos c20] at H
                   have c20b0 := eq_true c20
                   have c20b1 := decide_eq_true c20
                   clear c20
                   replace H := Option.bind_eq_some_iff.mp H
                   obtain ⟨t444, A210, H⟩ := H
                   have A21 := Aside0.mk A210
                   clear A210
                   by_cases c22 : t444 = true
                   {
                   subst c22
                   rw [if_pos rfl] at H
                   by_cases c23 : x5_3.length < 1099511627776
                   {
                   rw [if_pos c23] at H
                   have LMc23 := Aside0.mk c23
                   clear c23
                   by_cases c24 : (rdOf ByteArray.empty l1 x21_2).size ≤ 9223372036854775807
                   {
                   rw [if_pos c24] at H
                   have c24b0 := eq_true c24
                   have c24b1 := decide_eq_true c24
                   try have c24b2 : (9223372036854775807 < (rdOf ByteArray.empty l1 x21_2).size) = False := eq_false (Nat.not_lt.2 c24)
                   clear c24
                   obtain ⟨y445, hy445⟩ : ∃ y_ : List (ByteArray × Int), y_ = (x5_3 ++ [((rdOf ByteArray.empty l1 x21_2), 1)]) := ⟨_, rfl⟩
                   replace H : (impl_RefsIn.l0 k3 l0 y445 l1 (l1.length : Int) (wrap64 (x21_2 + 1))) = some r := rH_ hy445 H
                   have Ny445 := Aside0.mk hy445
                   clear hy445
                   have H' := Aside0.mk H
                   clear H
                   have p442 : 0 ≤ (x30_3 : Int) := dA_
                   have q442 : x30_3 < (l0.length : Int) := dA_
                   obtain ⟨ad442, e442, hx442_0, hx442_1, hx442_2, hx442_3⟩ := at_T57 HR0.out x30_3 p442 q442
                   cases e442
                   replace hx442_0 := hX_ HB hx442_0
                   replace hx442_1 := hX_ HB hx442_1
                   replace hx442_2 := hX_ HB hx442_2
                   replace hx442_3 := hX_ HB hx442_3
                   replace p442 := eq_true p442
                   replace q442 := eq_true q442
                   go_wp2_with (first | ((with_reducible refine gate_dst (N := 9) rfl ?_); (try (refine gate_guard (by rfl) ?_; dsimp only)); refine bE_ 9 #[.string (⟨#[]⟩ : ByteArray), .int .i64 0, .string (⟨#[]⟩ : ByteArray), .bool false] 57 ?_; intro gb443 hg w25 hbox hb; replace HM_5 := Aside0.mk (MapAt.below (mp_ HM_5) hb); have BK443 := Aside0.mk (hbox); have GW443 := Aside0.mk (ge_ hg (bw_ HB)); have GE443 := Aside0.mk (ge_ hg (bw_ HB)); replace HB := Aside0.mk (below_step (bw_ HB) hb); clear hb hbox hg; have hcz26_0 := cz_ BK443 0 (.string (⟨#[]⟩ : ByteArray)); have hcz26_1 := cz_ BK443 1 (.int .i64 0); have hcz26_2 := cz_ BK443 2 (.string (⟨#[]⟩ : ByteArray)); have hcz26_3 := cz_ BK443 3 (.bool false); have hfz26_0 := blk_frozen BK443.out 0; have hfz26_1 := blk_frozen BK443.out 1; have hfz26_2 := blk_frozen BK443.out 2; have hfz26_3 := blk_frozen BK443.out 3) | (go_at_call 82; (with_reducible refine (strings_Contains.calls ((rd_T57 l0 x30_3).f2) ((rdOf ByteArray.empty l1 x21_2).extract 0 13) true _ ?side1 A21.out).mono ?_); (case side1 => refine EnvW.below HE.out ?_; repeat (first | (with_reducible first | exact HB.out | apply below_alloc | apply pw_below_drewN | apply below_drew1 | refine below_set ?_ GE443.out) | exact HB.out)); rintro e w' ⟨rfl, ⟨nd, rfl⟩⟩; (try first | exact ⟨rfl, _, World.drewN_drewN _ _ _⟩ | exact ⟨rfl, _, Eq.trans (World.drewN_drewN _ _ _) (congrArg (World.drewN _) (Nat.add_assoc _ _ _))⟩)) | ((with_reducible refine gate_put (t := 99) (p := 39) rfl ?_); (try (refine gate_guard (by rfl) ?_; dsimp only)); refine map_put (kkStr Tryz.prog 9 Tryz.underlying9) ekI64 rfl 99 3 39 _ _ rfl Tryz.underlying99 gm436 x5_3 (rdOf ByteArray.empty l1 x21_2) 1 rfl rfl (show (rdOf ByteArray.empty l1 x21_2).size ≤ 9223372036854775807 from by first | assumption | exact of_eq_true (by assumption) | exact of_decide_eq_true (by assumption) | decide | omega) rfl (mp_ HM_5) LMc23.out ?_; intro w27 hmp hg; rw [← Ny445.out] at hmp; replace BK443 := Aside0.mk (far_blk (mp_ HM_5) hg (show (_ : World).heap[gb443]? = some (.cells #[.string ((rd_T57 l0 x30_3).f0), .int .i64 ((rd_T57 l0 x30_3).f1), .string ((rd_T57 l0 x30_3).f2), .bool ((rd_T57 l0 x30_3).f3)] 57 (0, 0)) from by (with_reducible repeat (first | refine blk_drewN ?_ _ | refine blk_drew ?_ | refine blk_alloc ?_ _)); refine blk_put (cs := #[.string ((rd_T57 l0 x30_3).f0), .int .i64 ((rd_T57 l0 x30_3).f1), .string ((rd_T57 l0 x30_3).f2), .bool false]) ?_ 3 _ rfl; (with_reducible repeat (first | refine blk_drewN ?_ _ | refine blk_drew ?_ | refine blk_alloc ?_ _)); refine blk_put (cs := #[.string ((rd_T57 l0 x30_3).f0), .int .i64 ((rd_T57 l0 x30_3).f1), .string (⟨#[]⟩ : ByteArray), .bool false]) ?_ 2 _ rfl; (with_reducible repeat (first | refine blk_drewN ?_ _ | refine blk_drew ?_ | refine blk_alloc ?_ _)); refine blk_put (cs := #[.string ((rd_T57 l0 x30_3).f0), .int .i64 0, .string (⟨#[]⟩ : ByteArray), .bool false]) ?_ 1 _ rfl; (with_reducible repeat (first | refine blk_drewN ?_ _ | refine blk_drew ?_ | refine blk_alloc ?_ _)); refine blk_put (cs := #[.string (⟨#[]⟩ : ByteArray), .int .i64 0, .string (⟨#[]⟩ : ByteArray), .bool false]) ?_ 0 _ rfl; (with_reducible repeat (first | refine blk_drewN ?_ _ | refine blk_drew ?_ | refine blk_alloc ?_ _)); exact BK443.out)); replace HM_5 := Aside0.mk (hmp); replace HB := Aside0.mk (far_below GMgm436.out (below_size (bw1_ HB GE443)) hg (bw1_ HB GE443)); clear hmp hg))
                   repeat (go_quiet (first | ((with_reducible refine gate_dst (N := 9) rfl ?_); (try (refine gate_guard (by rfl) ?_; dsimp only)); refine bE_ 9 #[.string (⟨#[]⟩ : ByteArray), .int .i64 0, .string (⟨#[]⟩ : ByteArray), .bool false] 57 ?_; intro gb443 hg w25 hbox hb; replace HM_5 := Aside0.mk (MapAt.below (mp_ HM_5) hb); have BK443 := Aside0.mk (hbox); have GW443 := Aside0.mk (ge_ hg (bw_ HB)); have GE443 := Aside0.mk (ge_ hg (bw_ HB)); replace HB := Aside0.mk (below_step (bw_ HB) hb); clear hb hbox hg; have hcz26_0 := cz_ BK443 0 (.string (⟨#[]⟩ : ByteArray)); have hcz26_1 := cz_ BK443 1 (.int .i64 0); have hcz26_2 := cz_ BK443 2 (.string (⟨#[]⟩ : ByteArray)); have hcz26_3 := cz_ BK443 3 (.bool false); have hfz26_0 := blk_frozen BK443.out 0; have hfz26_1 := blk_frozen BK443.out 1; have hfz26_2 := blk_frozen BK443.out 2; have hfz26_3 := blk_frozen BK443.out 3) | (go_at_call 82; (with_reducible refine (strings_Contains.calls ((rd_T57 l0 x30_3).f2) ((rdOf ByteArray.empty l1 x21_2).extract 0 13) true _ ?side1 A21.out).mono ?_); (case side1 => refine EnvW.below HE.out ?_; repeat (first | (with_reducible first | exact HB.out | apply below_alloc | apply pw_below_drewN | apply below_drew1 | refine below_set ?_ GE443.out) | exact HB.out)); rintro e w' ⟨rfl, ⟨nd, rfl⟩⟩; (try first | exact ⟨rfl, _, World.drewN_drewN _ _ _⟩ | exact ⟨rfl, _, Eq.trans (World.drewN_drewN _ _ _) (congrArg (World.drewN _) (Nat.add_assoc _ _ _))⟩)) | ((with_reducible refine gate_put (t := 99) (p := 39) rfl ?_); (try (refine gate_guard (by rfl) ?_; dsimp only)); refine map_put (kkStr Tryz.prog 9 Tryz.underlying9) ekI64 rfl 99 3 39 _ _ rfl Tryz.underlying99 gm436 x5_3 (rdOf ByteArray.empty l1 x21_2) 1 rfl rfl (show (rdOf ByteArray.empty l1 x21_2).size ≤ 9223372036854775807 from by first | assumption | exact of_eq_true (by assumption) | exact of_decide_eq_true (by assumption) | decide | omega) rfl (mp_ HM_5) LMc23.out ?_; intro w27 hmp hg; rw [← Ny445.out] at hmp; replace BK443 := Aside0.mk (far_blk (mp_ HM_5) hg (show (_ : World).heap[gb443]? = some (.cells #[.string ((rd_T57 l0 x30_3).f0), .int .i64 ((rd_T57 l0 x30_3).f1), .string ((rd_T57 l0 x30_3).f2), .bool ((rd_T57 l0 x30_3).f3)] 57 (0, 0)) from by (with_reducible repeat (first | refine blk_drewN ?_ _ | refine blk_drew ?_ | refine blk_alloc ?_ _)); refine blk_put (cs := #[.string ((rd_T57 l0 x30_3).f0), .int .i64 ((rd_T57 l0 x30_3).f1), .string ((rd_T57 l0 x30_3).f2), .bool false]) ?_ 3 _ rfl; (with_reducible repeat (first | refine blk_drewN ?_ _ | refine blk_drew ?_ | refine blk_alloc ?_ _)); refine blk_put (cs := #[.string ((rd_T57 l0 x30_3).f0), .int .i64 ((rd_T57 l0 x30_3).f1), .string (⟨#[]⟩ : ByteArray), .bool false]) ?_ 2 _ rfl; (with_reducible repeat (first | refine blk_drewN ?_ _ | refine blk_drew ?_ | refine blk_alloc ?_ _)); refine blk_put (cs := #[.string ((rd_T57 l0 x30_3).f0), .int .i64 0, .string (⟨#[]⟩ : ByteArray), .bool false]) ?_ 1 _ rfl; (with_reducible repeat (first | refine blk_drewN ?_ _ | refine blk_drew ?_ | refine blk_alloc ?_ _)); refine blk_put (cs := #[.string (⟨#[]⟩ : ByteArray), .int .i64 0, .string (⟨#[]⟩ : ByteArray), .bool false]) ?_ 0 _ rfl; (with_reducible repeat (first | refine blk_drewN ?_ _ | refine blk_drew ?_ | refine blk_alloc ?_ _)); exact BK443.out)); replace HM_5 := Aside0.mk (hmp); replace HB := Aside0.mk (far_below GMgm436.out (below_size (bw1_ HB GE443)) hg (bw1_ HB GE443)); clear hmp hg)); try go_wp2_with (first | ((with_reducible refine gate_dst (N := 9) rfl ?_); (try (refine gate_guard (by rfl) ?_; dsimp only)); refine bE_ 9 #[.string (⟨#[]⟩ : ByteArray), .int .i64 0, .string (⟨#[]⟩ : ByteArray), .bool false] 57 ?_; intro gb443 hg w25 hbox hb; replace HM_5 := Aside0.mk (MapAt.below (mp_ HM_5) hb); have BK443 := Aside0.mk (hbox); have GW443 := Aside0.mk (ge_ hg (bw_ HB)); have GE443 := Aside0.mk (ge_ hg (bw_ HB)); replace HB := Aside0.mk (below_step (bw_ HB) hb); clear hb hbox hg; have hcz26_0 := cz_ BK443 0 (.string (⟨#[]⟩ : ByteArray)); have hcz26_1 := cz_ BK443 1 (.int .i64 0); have hcz26_2 := cz_ BK443 2 (.string (⟨#[]⟩ : ByteArray)); have hcz26_3 := cz_ BK443 3 (.bool false); have hfz26_0 := blk_frozen BK443.out 0; have hfz26_1 := blk_frozen BK443.out 1; have hfz26_2 := blk_frozen BK443.out 2; have hfz26_3 := blk_frozen BK443.out 3) | (go_at_call 82; (with_reducible refine (strings_Contains.calls ((rd_T57 l0 x30_3).f2) ((rdOf ByteArray.empty l1 x21_2).extract 0 13) true _ ?side1 A21.out).mono ?_); (case side1 => refine EnvW.below HE.out ?_; repeat (first | (with_reducible first | exact HB.out | apply below_alloc | apply pw_below_drewN | apply below_drew1 | refine below_set ?_ GE443.out) | exact HB.out)); rintro e w' ⟨rfl, ⟨nd, rfl⟩⟩; (try first | exact ⟨rfl, _, World.drewN_drewN _ _ _⟩ | exact ⟨rfl, _, Eq.trans (World.drewN_drewN _ _ _) (congrArg (World.drewN _) (Nat.add_assoc _ _ _))⟩)) | ((with_reducible refine gate_put (t := 99) (p := 39) rfl ?_); (try (refine gate_guard (by rfl) ?_; dsimp only)); refine map_put (kkStr Tryz.prog 9 Tryz.underlying9) ekI64 rfl 99 3 39 _ _ rfl Tryz.underlying99 gm436 x5_3 (rdOf ByteArray.empty l1 x21_2) 1 rfl rfl (show (rdOf ByteArray.empty l1 x21_2).size ≤ 9223372036854775807 from by first | assumption | exact of_eq_true (by assumption) | exact of_decide_eq_true (by assumption) | decide | omega) rfl (mp_ HM_5) LMc23.out ?_; intro w27 hmp hg; rw [← Ny445.out] at hmp; replace BK443 := Aside0.mk (far_blk (mp_ HM_5) hg (show (_ : World).heap[gb443]? = some (.cells #[.string ((rd_T57 l0 x30_3).f0), .int .i64 ((rd_T57 l0 x30_3).f1), .string ((rd_T57 l0 x30_3).f2), .bool ((rd_T57 l0 x30_3).f3)] 57 (0, 0)) from by (with_reducible repeat (first | refine blk_drewN ?_ _ | refine blk_drew ?_ | refine blk_alloc ?_ _)); refine blk_put (cs := #[.string ((rd_T57 l0 x30_3).f0), .int .i64 ((rd_T57 l0 x30_3).f1), .string ((rd_T57 l0 x30_3).f2), .bool false]) ?_ 3 _ rfl; (with_reducible repeat (first | refine blk_drewN ?_ _ | refine blk_drew ?_ | refine blk_alloc ?_ _)); refine blk_put (cs := #[.string ((rd_T57 l0 x30_3).f0), .int .i64 ((rd_T57 l0 x30_3).f1), .string (⟨#[]⟩ : ByteArray), .bool false]) ?_ 2 _ rfl; (with_reducible repeat (first | refine blk_drewN ?_ _ | refine blk_drew ?_ | refine blk_alloc ?_ _)); refine blk_put (cs := #[.string ((rd_T57 l0 x30_3).f0), .int .i64 0, .string (⟨#[]⟩ : ByteArray), .bool false]) ?_ 1 _ rfl; (with_reducible repeat (first | refine blk_drewN ?_ _ | refine blk_drew ?_ | refine blk_alloc ?_ _)); refine blk_put (cs := #[.string (⟨#[]⟩ : ByteArray), .int .i64 0, .string (⟨#[]⟩ : ByteArray), .bool false]) ?_ 0 _ rfl; (with_reducible repeat (first | refine blk_drewN ?_ _ | refine blk_drew ?_ | refine blk_alloc ?_ _)); exact BK443.out)); replace HM_5 := Aside0.mk (hmp); replace HB := Aside0.mk (far_below GMgm436.out (below_size (bw1_ HB GE443)) hg (bw1_ HB GE443)); clear hmp hg)))
                   go_roundg k3
                   case measure => have := HJ2.out; have := HK2.out; have := HK3.out; omega
                   case rel => exact ⟨(y445), (wrap64 (x21_2 + 1)), (by first | rfl | (simp; done) | (simp [*]; done)), H', ⟨by have := HJ2.out; have := HK2.out; have := HK3.out; omega⟩, ⟨mp_ HM_5⟩, ⟨bw1_ HB GE443⟩⟩}
                   {
                   rw [if_neg c24] at H
                   exact absurd H (by simp)}}
                   {
                   rw [if_neg c23] at H
                   exact absurd H (by simp)}}
                   {
                   replace c22 := Bool.eq_false_iff.mpr c22
                   subst c22
                   rw [if_neg (show ¬ (false = true) by decide)] at H
                   have H' := Aside0.mk H
                   clear H
                   have p442 : 0 ≤ (x30_3 : Int) := dA_
                   have q442 : x30_3 < (l0.length : Int) := dA_
                   obtain ⟨ad442, e442, hx442_0, hx442_1, hx442_2, hx442_3⟩ := at_T57 HR0.out x30_3 p442 q442
                   cases e442
                   replace hx442_0 := hX_ HB hx442_0
                   replace hx442_1 := hX_ HB hx442_1
                   replace hx442_2 := hX_ HB hx442_2
                   replace hx442_3 := hX_ HB hx442_3
                   replace p442 := eq_true p442
                   replace q442 := eq_true q442
                   go_wp2_with (first | ((with_reducible refine gate_dst (N := 9) rfl ?_); (try (refine gate_guard (by rfl) ?_; dsimp only)); refine bE_ 9 #[.string (⟨#[]⟩ : ByteArray), .int .i64 0, .string (⟨#[]⟩ : ByteArray), .bool false] 57 ?_; intro gb443 hg w28 hbox hb; replace HM_5 := Aside0.mk (MapAt.below (mp_ HM_5) hb); have BK443 := Aside0.mk (hbox); have GW443 := Aside0.mk (ge_ hg (bw_ HB)); have GE443 := Aside0.mk (ge_ hg (bw_ HB)); replace HB := Aside0.mk (below_step (bw_ HB) hb); clear hb hbox hg; have hcz29_0 := cz_ BK443 0 (.string (⟨#[]⟩ : ByteArray)); have hcz29_1 := cz_ BK443 1 (.int .i64 0); have hcz29_2 := cz_ BK443 2 (.string (⟨#[]⟩ : ByteArray)); have hcz29_3 := cz_ BK443 3 (.bool false); have hfz29_0 := blk_frozen BK443.out 0; have hfz29_1 := blk_frozen BK443.out 1; have hfz29_2 := blk_frozen BK443.out 2; have hfz29_3 := blk_frozen BK443.out 3) | (go_at_call 82; (with_reducible refine (strings_Contains.calls ((rd_T57 l0 x30_3).f2) ((rdOf ByteArray.empty l1 x21_2).extract 0 13) false _ ?side1 A21.out).mono ?_); (case side1 => refine EnvW.below HE.out ?_; repeat (first | (with_reducible first | exact HB.out | apply below_alloc | apply pw_below_drewN | apply below_drew1 | refine below_set ?_ GE443.out) | exact HB.out)); rintro e w' ⟨rfl, ⟨nd, rfl⟩⟩; (try first | exact ⟨rfl, _, World.drewN_drewN _ _ _⟩ | exact ⟨rfl, _, Eq.trans (World.drewN_drewN _ _ _) (congrArg (World.drewN _) (Nat.add_assoc _ _ _))⟩)))
                   repeat (go_quiet (first | ((with_reducible refine gate_dst (N := 9) rfl ?_); (try (refine gate_guard (by rfl) ?_; dsimp only)); refine bE_ 9 #[.string (⟨#[]⟩ : ByteArray), .int .i64 0, .string (⟨#[]⟩ : ByteArray), .bool false] 57 ?_; intro gb443 hg w28 hbox hb; replace HM_5 := Aside0.mk (MapAt.below (mp_ HM_5) hb); have BK443 := Aside0.mk (hbox); have GW443 := Aside0.mk (ge_ hg (bw_ HB)); have GE443 := Aside0.mk (ge_ hg (bw_ HB)); replace HB := Aside0.mk (below_step (bw_ HB) hb); clear hb hbox hg; have hcz29_0 := cz_ BK443 0 (.string (⟨#[]⟩ : ByteArray)); have hcz29_1 := cz_ BK443 1 (.int .i64 0); have hcz29_2 := cz_ BK443 2 (.string (⟨#[]⟩ : ByteArray)); have hcz29_3 := cz_ BK443 3 (.bool false); have hfz29_0 := blk_frozen BK443.out 0; have hfz29_1 := blk_frozen BK443.out 1; have hfz29_2 := blk_frozen BK443.out 2; have hfz29_3 := blk_frozen BK443.out 3) | (go_at_call 82; (with_reducible refine (strings_Contains.calls ((rd_T57 l0 x30_3).f2) ((rdOf ByteArray.empty l1 x21_2).extract 0 13) false _ ?side1 A21.out).mono ?_); (case side1 => refine EnvW.below HE.out ?_; repeat (first | (with_reducible first | exact HB.out | apply below_alloc | apply pw_below_drewN | apply below_drew1 | refine below_set ?_ GE443.out) | exact HB.out)); rintro e w' ⟨rfl, ⟨nd, rfl⟩⟩; (try first | exact ⟨rfl, _, World.drewN_drewN _ _ _⟩ | exact ⟨rfl, _, Eq.trans (World.drewN_drewN _ _ _) (congrArg (World.drewN _) (Nat.add_assoc _ _ _))⟩))); try go_wp2_with (first | ((with_reducible refine gate_dst (N := 9) rfl ?_); (try (refine gate_guard (by rfl) ?_; dsimp only)); refine bE_ 9 #[.string (⟨#[]⟩ : ByteArray), .int .i64 0, .string (⟨#[]⟩ : ByteArray), .bool false] 57 ?_; intro gb443 hg w28 hbox hb; replace HM_5 := Aside0.mk (MapAt.below (mp_ HM_5) hb); have BK443 := Aside0.mk (hbox); have GW443 := Aside0.mk (ge_ hg (bw_ HB)); have GE443 := Aside0.mk (ge_ hg (bw_ HB)); replace HB := Aside0.mk (below_step (bw_ HB) hb); clear hb hbox hg; have hcz29_0 := cz_ BK443 0 (.string (⟨#[]⟩ : ByteArray)); have hcz29_1 := cz_ BK443 1 (.int .i64 0); have hcz29_2 := cz_ BK443 2 (.string (⟨#[]⟩ : ByteArray)); have hcz29_3 := cz_ BK443 3 (.bool false); have hfz29_0 := blk_frozen BK443.out 0; have hfz29_1 := blk_frozen BK443.out 1; have hfz29_2 := blk_frozen BK443.out 2; have hfz29_3 := blk_frozen BK443.out 3) | (go_at_call 82; (with_reducible refine (strings_Contains.calls ((rd_T57 l0 x30_3).f2) ((rdOf ByteArray.empty l1 x21_2).extract 0 13) false _ ?side1 A21.out).mono ?_); (case side1 => refine EnvW.below HE.out ?_; repeat (first | (with_reducible first | exact HB.out | apply below_alloc | apply pw_below_drewN | apply below_drew1 | refine below_set ?_ GE443.out) | exact HB.out)); rintro e w' ⟨rfl, ⟨nd, rfl⟩⟩; (try first | exact ⟨rfl, _, World.drewN_drewN _ _ _⟩ | exact ⟨rfl, _, Eq.trans (World.drewN_drewN _ _ _) (congrArg (World.drewN _) (Nat.add_assoc _ _ _))⟩))))
                   go_roundg k3
                   case measure => have := HJ2.out; have := HK2.out; have := HK3.out; omega
                   case rel => exact ⟨(x5_3), (wrap64 (x30_3 + 1)), (by first | rfl | (simp; done) | (simp [*]; done)), H', ⟨by have := HJ2.out; have := HK2.out; have := HK3.out; omega⟩, ⟨mp_ HM_5⟩, ⟨bw1_ HB GE443⟩⟩}}
                   {
                   rw [if_neg c20] at H
                   exact absurd H (by simp)}}
                   {
                   rw [if_neg c19] at H
                   exact absurd H (by simp)}}
                   {
                   rw [if_neg c18] at H
                   exact absurd H (by simp)}}
                   {
                   rw [if_neg c17] at H
                   exact absurd H (by simp)}}
                   {
                   rw [if_neg c16] at H
                   have c16b0 := decide_eq_false c16
                   clear c16
                   have H' := Aside0.mk H
                   clear H
                   go_wp2
                   repeat (go_quiet (fail); try go_wp2)
                   go_roundg k3
                   case measure => have := HJ2.out; have := HK2.out; have := HK3.out; omega
                   case rel => exact ⟨(x5_3), (wrap64 (x21_2 + 1)), (by first | rfl | (simp; done) | (simp [*]; done)), H', ⟨by have := HJ2.out; have := HK2.out; have := HK3.out; omega⟩, ⟨mp_ HM_5⟩, ⟨bw_ HB⟩⟩}}
             {
             replace c15 := Bool.eq_false_iff.mpr c15
             subst c15
             rw [if_neg (show ¬ (false = true) by decide)] at H
             have H' := Aside0.mk H
             clear H
             have p440 : 0 ≤ (x21_2 : Int) := dA_
             have q440 : x21_2 < (l1.length : Int) := dA_
             obtain ⟨ad440, e440, hx440_0⟩ := Kd.at_string HR1.out x21_2 p440 q440
             cases e440
             replace hx440_0 := hX_ HB hx440_0
             replace p440 := eq_true p440
             replace q440 := eq_true q440
             go_wp2_with (first | (go_at_call 76; (with_reducible refine (impl_AddressOk.calls k2 (rdOf ByteArray.empty l1 x21_2) false _ A14.out).mono ?_); rintro e w' ⟨rfl, ⟨nd, rfl⟩⟩; (try first | exact ⟨rfl, _, World.drewN_drewN _ _ _⟩ | exact ⟨rfl, _, Eq.trans (World.drewN_drewN _ _ _) (congrArg (World.drewN _) (Nat.add_assoc _ _ _))⟩)))
             repeat (go_quiet (first | (go_at_call 76; (with_reducible refine (impl_AddressOk.calls k2 (rdOf ByteArray.empty l1 x21_2) false _ A14.out).mono ?_); rintro e w' ⟨rfl, ⟨nd, rfl⟩⟩; (try first | exact ⟨rfl, _, World.drewN_drewN _ _ _⟩ | exact ⟨rfl, _, Eq.trans (World.drewN_drewN _ _ _) (congrArg (World.drewN _) (Nat.add_assoc _ _ _))⟩))); try go_wp2_with (first | (go_at_call 76; (with_reducible refine (impl_AddressOk.calls k2 (rdOf ByteArray.empty l1 x21_2) false _ A14.out).mono ?_); rintro e w' ⟨rfl, ⟨nd, rfl⟩⟩; (try first | exact ⟨rfl, _, World.drewN_drewN _ _ _⟩ | exact ⟨rfl, _, Eq.trans (World.drewN_drewN _ _ _) (congrArg (World.drewN _) (Nat.add_assoc _ _ _))⟩))))
             go_roundg k2
             case measure => have := HJ2.out; have := HK2.out; omega
             case rel => exact ⟨(x5_2), (wrap64 (x21_2 + 1)), (by first | rfl | (simp; done) | (simp [*]; done)), H', ⟨by have := HJ2.out; have := HK2.out; omega⟩, ⟨mp_ HM_5⟩, ⟨bw_ HB⟩⟩}}
             {
             rw [if_neg c13] at H
             exact absurd H (by simp)}}
             {
             rw [if_neg c12] at H
             exact absurd H (by simp)}}
             {
             rw [if_neg c11] at H
             have c11b0 := decide_eq_false c11
             clear c11
             replace H := Option.bind_eq_some_iff.mp H
             obtain ⟨t437, A300, H⟩ := H
             have A30 := Aside0.mk A300
             clear A300
             obtain rfl := Option.some.inj H
             go_wp2_with (first | (go_at_call 83; (with_reducible refine (impl_sorted.calls gm436 x5_2 t437 _ ?side1 A30.out).mono ?_); (case side1 => (with_reducible repeat (first | refine MapAt.alloc ?_ _ | refine MapAt.drewN ?_ _ | refine MapAt.drew ?_)); exact HM_5.out); rintro e w31 ⟨v438, rfl, ho0, hb⟩; have HO439 := Aside0.mk (Kd.R_lower ho0 (below_size (bw_ HB))); replace HM_5 := Aside0.mk (MapAt.below (mp_ HM_5) hb); replace HB := Aside0.mk (below_step (bw_ HB) hb); clear hb; (try clear ho0)))
             repeat (go_quiet (first | (go_at_call 83; (with_reducible refine (impl_sorted.calls gm436 x5_2 t437 _ ?side1 A30.out).mono ?_); (case side1 => (with_reducible repeat (first | refine MapAt.alloc ?_ _ | refine MapAt.drewN ?_ _ | refine MapAt.drew ?_)); exact HM_5.out); rintro e w31 ⟨v438, rfl, ho0, hb⟩; have HO439 := Aside0.mk (Kd.R_lower ho0 (below_size (bw_ HB))); replace HM_5 := Aside0.mk (MapAt.below (mp_ HM_5) hb); replace HB := Aside0.mk (below_step (bw_ HB) hb); clear hb; (try clear ho0))); try go_wp2_with (first | (go_at_call 83; (with_reducible refine (impl_sorted.calls gm436 x5_2 t437 _ ?side1 A30.out).mono ?_); (case side1 => (with_reducible repeat (first | refine MapAt.alloc ?_ _ | refine MapAt.drewN ?_ _ | refine MapAt.drew ?_)); exact HM_5.out); rintro e w31 ⟨v438, rfl, ho0, hb⟩; have HO439 := Aside0.mk (Kd.R_lower ho0 (below_size (bw_ HB))); replace HM_5 := Aside0.mk (MapAt.below (mp_ HM_5) hb); replace HB := Aside0.mk (below_step (bw_ HB) hb); clear hb; (try clear ho0))))
             go_ret
             exact ⟨_, eR_, kr_ HO439, bw_ HB⟩
}}
def spec_Word32.l0 : Nat → Int → List Int → Int → Option (ByteArray)
 | 0, _, _, _ => none
 | k + 1, x0, x3, x4 => if x4 ≥ 0 then (if 0 ≤ (IntKind.u64.wrap (wrap64 (5 * x4))) then (if 0 ≤ (Go.bits .and .u64 (shr .u64 x0 (IntKind.u64.wrap (wrap64 (5 * x4)))) 31) then (if (Go.bits .and .u64 (shr .u64 x0 (IntKind.u64.wrap (wrap64 (5 * x4)))) 31) < 32 then (if x3.length < 140737488355328 then (spec_Word32.l0 k x0 (x3 ++ [bt (⟨#[48, 49, 50, 51, 52, 53, 54, 55, 56, 57, 97, 98, 99, 100, 102, 103, 104, 105, 106, 107, 108, 109, 110, 112, 113, 114, 115, 118, 119, 120, 121, 122]⟩ : ByteArray) (Go.bits .and .u64 (shr .u64 x0 (IntKind.u64.wrap (wrap64 (5 * x4)))) 31)]) (wrap64 (x4 - 1))) else (none)) else (none)) else (none)) else (none)) else (some (strOfNums x3))
def spec_Word32.f (k : Nat) (a0 : Int) : Option (ByteArray) := spec_Word32.l0 k a0 (([] : List Int)) 12
theorem spec_Word32.calls (k : Nat) (a0 : Int) (r : ByteArray) (w : World) (h : spec_Word32.f k a0 = some r) :
 Calls Tryz.prog 91 #[.int .u64 a0] w fun e w' => e = .returned (.string r) ∧ Below w.heap.size w w' := by
 have HB := Aside0.mk (Below.refl w.heap.size w)
 have H : (spec_Word32.l0 k a0 (([] : List Int)) 12) = some r := h
 clear h
 obtain ⟨y150, hy150⟩ : ∃ y_ : List Int, y_ = (([] : List Int)) := ⟨_, rfl⟩
 replace H : (spec_Word32.l0 k a0 y150 12) = some r := rH_ hy150 H
 have Ny150 := Aside0.mk hy150
 clear hy150
 have H' := Aside0.mk H
 clear H
 go_enter Tryz.func91, Tryz.ntmps91
 go_wp2_with (first | ((with_reducible refine gate_dst (N := 5) rfl ?_); refine Kd.R_lit (Kd.int .u8) _ 5 ?hg (N := 5) ?hd (xs := ([] : List Int)) (inner := []) (ok := fun _ => True) (okp := fun _ => True) ?hr ?hp (fun _ hk => hk) trivial (Below.refl _ _) (Nat.le_refl _) (by simp) ?_; (case hd => rfl); (case hg => rfl); (case hr => first | (go_simp; done) | (go_simp; rfl)); (case hp => exact (Reps.none _ _)); intro v151 w2 ho3 hb hg_ hnew_; clear hg_ hnew_; (first | rw [← Ny150.out] at ho3 | (simp only [Int.reduceToNat] at ho3; rw [← Ny150.out] at ho3)); have HO152 := Aside0.mk (Kd.R_lower ho3 (below_size (bw_ HB))); replace HB := Aside0.mk (below_step (bw_ HB) hb); clear hb ho3))
 go_loopg [3, 4] k (fun kq v3 v4 w' => ∃ (x3_1 : List Int) (x4_1 : Int), v4 = .int .i64 x4_1 ∧ Aside0 (spec_Word32.l0 kq a0 x3_1 x4_1 = some r) ∧ Aside0 (kq ≤ k) ∧ Aside0 (Kd.R (Kd.int .u8) 5 w' w.heap.size (fun _ => True) v3 x3_1) ∧ Aside0 (Below w.heap.size w w'))
 case atStart => exact ⟨(y150), (12), (by first | rfl | (simp; done) | (simp [*]; done)), H', ⟨Nat.le_refl _⟩, ⟨kr_ HO152⟩, ⟨bw_ HB⟩⟩
 case round =>
  clear H'
  try clear p2
  obtain ⟨x3_1, x4_1, rfl, HA, HK1, HO_3, HB⟩ := hrel
  cases gk with
  | zero => exact absurd HA.out (by simp [spec_Word32.l0])
  | succ k1 =>
       have H := HA.out
       clear HA
       simp only [spec_Word32.l0] at H
       by_cases c4 : x4_1 ≥ 0
       {
       rw [if_pos c4] at H
       have c4b0 : decide (0 ≤ x4_1) = true := decide_eq_true c4
       clear c4
       obtain ⟨ji5, hji5⟩ : ∃ j_ : Int, (IntKind.u64.wrap (wrap64 (5 * x4_1))) = j_ := ⟨_, rfl⟩
       replace H : (if 0 ≤ (ji5) then (if 0 ≤ (Go.bits .and .u64 (shr .u64 a0 (ji5)) 31) then (if (Go.bits .and .u64 (shr .u64 a0 (ji5)) 31) < 32 then (if x3_1.length < 140737488355328 then (spec_Word32.l0 k1 a0 (x3_1 ++ [bt (⟨#[48, 49, 50, 51, 52, 53, 54, 55, 56, 57, 97, 98, 99, 100, 102, 103, 104, 105, 106, 107, 108, 109, 110, 112, 113, 114, 115, 118, 119, 120, 121, 122]⟩ : ByteArray) (Go.bits .and .u64 (shr .u64 a0 (ji5)) 31)]) (wrap64 (x4_1 - 1))) else (none)) else (none)) else (none)) else (none)) = some r := by first | (rw [hji5] at H; exact H) | (simp only [hji5] at H ⊢; exact H)
       by_cases c6 : 0 ≤ (ji5)
       {
       rw [if_pos c6] at H
       have c6b0 := eq_true c6
       have c6b1 := decide_eq_true c6
       clear c6
       obtain ⟨ji7, hji7⟩ : ∃ j_ : Int, (shr .u64 a0 (ji5)) = j_ := ⟨_, rfl⟩
       replace H : (if 0 ≤ (Go.bits .and .u64 (ji7) 31) then (if (Go.bits .and .u64 (ji7) 31) < 32 then (if x3_1.length < 140737488355328 then (spec_Word32.l0 k1 a0 (x3_1 ++ [bt (⟨#[48, 49, 50, 51, 52, 53, 54, 55, 56, 57, 97, 98, 99, 100, 102, 103, 104, 105, 106, 107, 108, 109, 110, 112, 113, 114, 115, 118, 119, 120, 121, 122]⟩ : ByteArray) (Go.bits .and .u64 (ji7) 31)]) (wrap64 (x4_1 - 1))) else (none)) else (none)) else (none)) = some r := by first | (rw [hji7] at H; exact H) | (simp only [hji7] at H ⊢; exact H)
       have hji7_ : (a0 / 2 ^ min (ji5).toNat 64) = ji7 := hji7
       have hji7z : (ji5) ≤ 64 → (a0 / 2 ^ (ji5).toNat) = ji7 := shr_small hji7
       by_cases c8 : 0 ≤ (Go.bits .and .u64 (ji7) 31)
       {
       rw [if_pos c8] at H
       have c8b0 := decide_eq_true c8
       clear c8
       by_cases c9 : (Go.bits .and .u64 (ji7) 31) < 32
       {
       rw [if_pos c9] at H
       have c9b0 := decide_eq_true c9
       clear c9
       by_cases c11 : x3_1.length < 140737488355328
       {
       rw [if_pos c11] at H
       have LMc11 := Aside0.mk c11
       clear c11
       obtain ⟨y153, hy153⟩ : ∃ y_ : List Int, y_ = (x3_1 ++ [bt (⟨#[48, 49, 50, 51, 52, 53, 54, 55, 56, 57, 97, 98, 99, 100, 102, 103, 104, 105, 106, 107, 108, 109, 110, 112, 113, 114, 115, 118, 119, 120, 121, 122]⟩ : ByteArray) (Go.bits .and .u64 (ji7) 31)]) := ⟨_, rfl⟩
       replace H : (spec_Word32.l0 k1 a0 y153 (wrap64 (x4_1 - 1))) = some r := rH_ hy153 H
       have Ny153 := Aside0.mk hy153
       clear hy153
       have H' := Aside0.mk H
       clear H
       have p10 : 0 ≤ ((Go.bits .and .u64 (ji7) 31) : Int) := dA_
       have q10 : (Go.bits .and .u64 (ji7) 31) < (32 : Int) := dA_
       have hx10 := bt_at (⟨#[48, 49, 50, 51, 52, 53, 54, 55, 56, 57, 97, 98, 99, 100, 102, 103, 104, 105, 106, 107, 108, 109, 110, 112, 113, 114, 115, 118, 119, 120, 121, 122]⟩ : ByteArray) (Go.bits .and .u64 (ji7) 31)
       replace p10 := eq_true p10
       replace q10 := eq_true q10
       go_wp2_with (first | ((with_reducible refine gate_builtin (b := .append) (xs := #[.tmp 10, .tmp 18]) rfl ?_); at_builtin; refine Kd.R_append (Kd.int .u8) (w0 := w) w.heap.size rfl (.tmp 10) (.tmp 18) 88 5 (.int .u8 0) 1 rfl Tryz.underlying88 info5 rfl (by decide) (by omega) u3 x3_1 (bt (⟨#[48, 49, 50, 51, 52, 53, 54, 55, 56, 57, 97, 98, 99, 100, 102, 103, 104, 105, 106, 107, 108, 109, 110, 112, 113, 114, 115, 118, 119, 120, 121, 122]⟩ : ByteArray) (Go.bits .and .u64 (ji7) 31)) [.int .u8 (bt (⟨#[48, 49, 50, 51, 52, 53, 54, 55, 56, 57, 97, 98, 99, 100, 102, 103, 104, 105, 106, 107, 108, 109, 110, 112, 113, 114, 115, 118, 119, 120, 121, 122]⟩ : ByteArray) (Go.bits .and .u64 (ji7) 31))] (fun _ => True) (fun _ => False) rfl rfl ?aP (fun _ hk => hk.elim) ?aF ?aO ?aB ?aS ?aL ?_; (case aP => exact rfl); (case aB => exact (bw_ HB)); (case aF => exact (fun _ _ => trivial)); (case aO => exact (kr_ HO_3)); (case aS => exact (below_size (bw_ HB))); (case aL => have := LMc11.out; omega); intro v154 w12 ho hb hg hat; rw [← Ny153.out] at ho; replace HB := Aside0.mk (hb); have HO155 := Aside0.mk (ho); clear HO_3; clear ho hb hg hat))
       go_roundg k1
       case measure => have := HK1.out; omega
       case rel => exact ⟨(y153), (wrap64 (x4_1 - 1)), (by first | rfl | (simp; done) | (simp [*]; done)), H', ⟨by have := HK1.out; omega⟩, ⟨kr_ HO155⟩, ⟨bw_ HB⟩⟩}
       {
       rw [if_neg c11] at H
       exact absurd H (by simp)}}
       {
       rw [if_neg c9] at H
       exact absurd H (by simp)}}
       {
       rw [if_neg c8] at H
       exact absurd H (by simp)}}
       {
       rw [if_neg c6] at H
       exact absurd H (by simp)}}
       {
       rw [if_neg c4] at H
       have c4b0 : decide (0 ≤ x4_1) = false := decide_eq_false c4
       clear c4
       obtain rfl := Option.some.inj H
       have hcv13 := own_string (P := Tryz.prog) Tryz.underlying88 Tryz.underlying5 Tryz.underlying9 (Kd.own_of_R HO_3.out)
       go_wp2
       go_ret
       exact ⟨eR_, bw_ HB⟩
}
mutual
def spec_Sum.l0 : Nat → List Int → Int → Int → Option (Int)
 | 0, _, _, _ => none
 | k + 1, x0, x3, x4 => if x4 < (x0.length : Int) then (if 0 ≤ x4 then (spec_Sum.l0 k x0 (IntKind.u64.wrap ((Go.bits .xor .u64 x3 (IntKind.u64.wrap (rd x0 x4))) * 1099511628211)) (wrap64 (x4 + 1))) else (none)) else (spec_Sum.l1 k x3 0)
def spec_Sum.l1 : Nat → Int → Int → Option (Int)
 | 0, _, _ => none
 | k + 1, x3, x5 => if x5 < 3 then (spec_Sum.l1 k (IntKind.u64.wrap ((Go.bits .xor .u64 x3 (x3 / 536870912)) * 11400714819323198485)) (wrap64 (x5 + 1))) else (some (Go.bits .xor .u64 x3 (x3 / 4294967296)))
end
def spec_Sum.f (k : Nat) (l0 : List Int) : Option (Int) := spec_Sum.l0 k l0 14695981039346656037 0
theorem spec_Sum.calls (k : Nat) (A0 : Option Addr) (c0 : Nat) (l0 : List Int) (r : Int) (w : World) (hr0 : Kd.C (Kd.int .u8) w A0 l0.length l0) (hc0 : l0.length ≤ c0) (h : spec_Sum.f k l0 = some r) :
 Calls Tryz.prog 92 #[.slice A0 l0.length c0] w fun e w' => e = .returned (.int .u64 r) ∧ Drawn0 w w' := by
 have HR0 := Aside0.mk hr0
 have HC0 := Aside0.mk hc0
 clear hr0 hc0
 have H : (spec_Sum.l0 k l0 14695981039346656037 0) = some r := h
 clear h
 have H' := Aside0.mk H
 clear H
 go_enter Tryz.func92, Tryz.ntmps92
 go_wp2
 go_loopg [3, 4] k (fun kq v3 v4 w' => ∃ (x3_1 : Int) (x4_1 : Int), v3 = .int .u64 x3_1 ∧ v4 = .int .i64 x4_1 ∧ Aside0 (spec_Sum.l0 kq l0 x3_1 x4_1 = some r) ∧ Aside0 (kq ≤ k) ∧ Drawn0 w w')
 case atStart => exact ⟨(14695981039346656037), (0), (by first | rfl | (simp; done) | (simp [*]; done)), (by first | rfl | (simp; done) | (simp [*]; done)), H', ⟨Nat.le_refl _⟩, dR_⟩
 case round =>
  clear H'
  obtain ⟨x3_1, x4_1, rfl, rfl, HA, HK1, ⟨m1, rfl⟩⟩ := hrel
  cases gk with
  | zero => exact absurd HA.out (by simp [spec_Sum.l0])
  | succ k1 =>
       have H := HA.out
       clear HA
       simp only [spec_Sum.l0] at H
       by_cases c2 : x4_1 < (l0.length : Int)
       {
       rw [if_pos c2] at H
       have c2b0 := decide_eq_true c2
       clear c2
       by_cases c3 : 0 ≤ x4_1
       {
       rw [if_pos c3] at H
       have c3b0 := decide_eq_true c3
       clear c3
       have H' := Aside0.mk H
       clear H
       have p156 : 0 ≤ (x4_1 : Int) := dA_
       have q156 : x4_1 < (l0.length : Int) := dA_
       obtain ⟨ad156, e156, hx156_0⟩ := Kd.at_int HR0.out x4_1 p156 q156
       cases e156
       replace p156 := eq_true p156
       replace q156 := eq_true q156
       go_wp2
       go_roundg k1
       case measure => have := HK1.out; omega
       case rel => exact ⟨(IntKind.u64.wrap ((Go.bits .xor .u64 x3_1 (IntKind.u64.wrap (rd l0 x4_1))) * 1099511628211)), (wrap64 (x4_1 + 1)), (by first | rfl | (simp; done) | (simp [*]; done)), (by first | rfl | (simp; done) | (simp [*]; done)), H', ⟨by have := HK1.out; omega⟩, dR_⟩}
       {
       rw [if_neg c3] at H
       exact absurd H (by simp)}}
       {
       rw [if_neg c2] at H
       have c2b0 := decide_eq_false c2
       clear c2
       have H' := Aside0.mk H
       clear H
       go_wp2
       go_loopg [3, 5] k1 (fun kq v3 v5 w' => ∃ (x3_2 : Int) (x5_2 : Int), v3 = .int .u64 x3_2 ∧ v5 = .int .i64 x5_2 ∧ Aside0 (spec_Sum.l1 kq x3_2 x5_2 = some r) ∧ Aside0 (kq ≤ k1) ∧ Drawn0 w w')
       case atStart => exact ⟨(x3_1), (0), (by first | rfl | (simp; done) | (simp [*]; done)), (by first | rfl | (simp; done) | (simp [*]; done)), H', ⟨Nat.le_refl _⟩, dR_⟩
       case round =>
        clear H'
        try clear p1
        try clear q1
        try clear hx1
        try clear c2
        try clear c2b0
        try clear p2
        try clear c3
        try clear c3b0
        try clear hx156_0
        try clear p156
        try clear q156
        obtain ⟨x3_2, x5_2, rfl, rfl, HA, HK2, ⟨m2, rfl⟩⟩ := hrel
        cases gk with
        | zero => exact absurd HA.out (by simp [spec_Sum.l1])
        | succ k2 =>
             have H := HA.out
             clear HA
             simp only [spec_Sum.l1] at H
             by_cases c4 : x5_2 < 3
             {
             rw [if_pos c4] at H
             have c4b0 := decide_eq_true c4
             clear c4
             have H' := Aside0.mk H
             clear H
             go_wp2
             go_roundg k2
             case measure => have := HK1.out; have := HK2.out; omega
             case rel => exact ⟨(IntKind.u64.wrap ((Go.bits .xor .u64 x3_2 (x3_2 / 536870912)) * 11400714819323198485)), (wrap64 (x5_2 + 1)), (by first | rfl | (simp; done) | (simp [*]; done)), (by first | rfl | (simp; done) | (simp [*]; done)), H', ⟨by have := HK1.out; have := HK2.out; omega⟩, dR_⟩}
             {
             rw [if_neg c4] at H
             have c4b0 := decide_eq_false c4
             clear c4
             obtain rfl := Option.some.inj H
             go_wp2
             go_ret
             exact ⟨eS_, dR_⟩
}}
def spec_l10Num.l0 : Nat → List Int → Int → Option (List Int)
 | 0, _, _ => none
 | k + 1, x0, x1 => if x1 ≥ 128 then (if x0.length < 140737488355328 then (spec_l10Num.l0 k (x0 ++ [(wrap64 ((Int.tmod x1 128) + 128)) % 256]) (wrap64 (Int.tdiv x1 128))) else (none)) else (if x0.length < 140737488355328 then (some (x0 ++ [(x1) % 256])) else (none))
def spec_l10Num.f (k : Nat) (l0 : List Int) (a1 : Int) : Option (List Int) := spec_l10Num.l0 k l0 a1
theorem spec_l10Num.calls (k : Nat) (P0_ : Nat → Prop) (u9000_ : Value) (l0 : List Int) (a1 : Int) (r : List Int) (w0 w : World) (hB : Below w0.heap.size w0 w) (ho0 : Kd.R (Kd.int .u8) 5 w w0.heap.size P0_ u9000_ l0) (h : spec_l10Num.f k l0 a1 = some r) :
 Calls Tryz.prog 103 #[u9000_, .int .i64 a1] w fun e w' => ∃ v0_ : Value, e = .returned (v0_) ∧ Kd.R (Kd.int .u8) 5 w' w0.heap.size (fun k_ => (P0_ k_ ∨ w.heap.size ≤ k_)) v0_ r ∧ Below w0.heap.size w0 w' ∧ Kept w w' (fun k_ => P0_ k_) := by
 have HO0 := Aside0.mk (show Kd.R (Kd.int .u8) 5 w w0.heap.size (fun k_ => (P0_ k_ ∨ w.heap.size ≤ k_)) u9000_ l0 from Kd.R_mono ho0 (fun k_ hk => (.inl hk)))
 have HK := Aside0.mk (Kept.refl w (fun k_ => P0_ k_))
 have HW0 := Aside0.mk hB.size
 have HB := Aside0.mk hB
 clear hB
 have H : (spec_l10Num.l0 k l0 a1) = some r := h
 clear h
 have H' := Aside0.mk H
 clear H
 go_enter Tryz.func103, Tryz.ntmps103
 go_wp2
 go_loopg [0, 1] k (fun kq v0 v1 w' => ∃ (x0_1 : List Int) (x1_1 : Int), v1 = .int .i64 x1_1 ∧ Aside0 (spec_l10Num.l0 kq x0_1 x1_1 = some r) ∧ Aside0 (kq ≤ k) ∧ Aside0 (Kd.R (Kd.int .u8) 5 w' w0.heap.size (fun k_ => (P0_ k_ ∨ w.heap.size ≤ k_)) v0 x0_1) ∧ Aside0 (Kept w w' (fun k_ => P0_ k_)) ∧ Aside0 (Below w0.heap.size w0 w'))
 case atStart => exact ⟨(l0), (a1), (by first | rfl | (simp; done) | (simp [*]; done)), H', ⟨Nat.le_refl _⟩, ⟨kr_ HO0⟩, ⟨by repeat (first | (with_reducible first | exact HK.out | apply Kept.alloc | apply Kept.drewN | apply Kept.drew) | exact HK.out)⟩, ⟨bw_ HB⟩⟩
 case round =>
  clear H'
  try clear c1
  try clear p2
  obtain ⟨x0_1, x1_1, rfl, HA, HK1, HO_0, HK, HB⟩ := hrel
  cases gk with
  | zero => exact absurd HA.out (by simp [spec_l10Num.l0])
  | succ k1 =>
       have H := HA.out
       clear HA
       simp only [spec_l10Num.l0] at H
       by_cases c3 : x1_1 ≥ 128
       {
       rw [if_pos c3] at H
       have c3b0 : decide (128 ≤ x1_1) = true := decide_eq_true c3
       clear c3
       by_cases c4 : x0_1.length < 140737488355328
       {
       rw [if_pos c4] at H
       have LMc4 := Aside0.mk c4
       clear c4
       obtain ⟨y157, hy157⟩ : ∃ y_ : List Int, y_ = (x0_1 ++ [(wrap64 ((Int.tmod x1_1 128) + 128)) % 256]) := ⟨_, rfl⟩
       replace H : (spec_l10Num.l0 k1 y157 (wrap64 (Int.tdiv x1_1 128))) = some r := rH_ hy157 H
       have Ny157 := Aside0.mk hy157
       clear hy157
       have H' := Aside0.mk H
       clear H
       go_wp2_with (first | ((with_reducible refine gate_builtin (b := .append) (xs := #[.tmp 7, .tmp 12]) rfl ?_); at_builtin; refine Kd.R_append (Kd.int .u8) (w0 := w0) w0.heap.size rfl (.tmp 7) (.tmp 12) 88 5 (.int .u8 0) 1 rfl Tryz.underlying88 info5 rfl (by decide) (by omega) u0 x0_1 ((wrap64 ((Int.tmod x1_1 128) + 128)) % 256) [.int .u8 ((wrap64 ((Int.tmod x1_1 128) + 128)) % 256)] (fun k_ => (P0_ k_ ∨ w.heap.size ≤ k_)) (fun _ => False) rfl rfl ?aP (fun _ hk => hk.elim) ?aF ?aO ?aB ?aS ?aL ?_; (case aP => exact rfl); (case aB => exact (bw_ HB)); (case aF => exact (fun k_ hk => (.inr (Nat.le_trans (by first | exact HK.out.1 | exact (show Kept w _ (fun k_ => P0_ k_) from by repeat (first | (with_reducible first | exact HK.out | apply Kept.alloc | apply Kept.drewN | apply Kept.drew) | exact HK.out)).1) hk)))); (case aO => exact (kr_ HO_0)); (case aS => exact (below_size (bw_ HB))); (case aL => have := LMc4.out; omega); intro v158 w5 ho hb hg hat; rw [← Ny157.out] at ho; replace HB := Aside0.mk (hb); replace HK := Aside0.mk (Kept.of_grown (S := (fun k_ => P0_ k_)) hg (by repeat (first | (with_reducible first | exact HK.out | apply Kept.alloc | apply Kept.drewN | apply Kept.drew) | exact HK.out)) (fun k_ e_ => (HO_0.out.1 k_ e_))); have HO159 := Aside0.mk (ho); clear HO_0; clear ho hb hg hat))
       go_roundg k1
       case measure => have := HK1.out; omega
       case rel => exact ⟨(y157), (wrap64 (Int.tdiv x1_1 128)), (by first | rfl | (simp; done) | (simp [*]; done)), H', ⟨by have := HK1.out; omega⟩, ⟨kr_ HO159⟩, ⟨by repeat (first | (with_reducible first | exact HK.out | apply Kept.alloc | apply Kept.drewN | apply Kept.drew) | exact HK.out)⟩, ⟨bw_ HB⟩⟩}
       {
       rw [if_neg c4] at H
       exact absurd H (by simp)}}
       {
       rw [if_neg c3] at H
       have c3b0 : decide (128 ≤ x1_1) = false := decide_eq_false c3
       clear c3
       by_cases c6 : x0_1.length < 140737488355328
       {
       rw [if_pos c6] at H
       have LMc6 := Aside0.mk c6
       clear c6
       obtain ⟨y160, hy160⟩ : ∃ y_ : List Int, y_ = (x0_1 ++ [(x1_1) % 256]) := ⟨_, rfl⟩
       replace H : (some y160) = some r := rH_ hy160 H
       have Ny160 := Aside0.mk hy160
       clear hy160
       obtain rfl := Option.some.inj H
       go_wp2_with (first | ((with_reducible refine gate_builtin (b := .append) (xs := #[.tmp 16, .tmp 19]) rfl ?_); at_builtin; refine Kd.R_append (Kd.int .u8) (w0 := w0) w0.heap.size rfl (.tmp 16) (.tmp 19) 88 5 (.int .u8 0) 1 rfl Tryz.underlying88 info5 rfl (by decide) (by omega) u0 x0_1 ((x1_1) % 256) [.int .u8 ((x1_1) % 256)] (fun k_ => (P0_ k_ ∨ w.heap.size ≤ k_)) (fun _ => False) rfl rfl ?aP (fun _ hk => hk.elim) ?aF ?aO ?aB ?aS ?aL ?_; (case aP => exact rfl); (case aB => exact (bw_ HB)); (case aF => exact (fun k_ hk => (.inr (Nat.le_trans (by first | exact HK.out.1 | exact (show Kept w _ (fun k_ => P0_ k_) from by repeat (first | (with_reducible first | exact HK.out | apply Kept.alloc | apply Kept.drewN | apply Kept.drew) | exact HK.out)).1) hk)))); (case aO => exact (kr_ HO_0)); (case aS => exact (below_size (bw_ HB))); (case aL => have := LMc6.out; omega); intro v161 w7 ho hb hg hat; rw [← Ny160.out] at ho; replace HB := Aside0.mk (hb); replace HK := Aside0.mk (Kept.of_grown (S := (fun k_ => P0_ k_)) hg (by repeat (first | (with_reducible first | exact HK.out | apply Kept.alloc | apply Kept.drewN | apply Kept.drew) | exact HK.out)) (fun k_ e_ => (HO_0.out.1 k_ e_))); have HO162 := Aside0.mk (ho); clear HO_0; clear ho hb hg hat))
       go_ret
       exact ⟨_, eR_, kr_ HO162, bw_ HB, by repeat (first | (with_reducible first | exact HK.out | apply Kept.alloc | apply Kept.drewN | apply Kept.drew) | exact HK.out)⟩}
       {
       rw [if_neg c6] at H
       exact absurd H (by simp)
}}
theorem spec_l10Num.callsZ (k : Nat) (P0_ : Nat → Prop) (u9000_ : Value) (l0 : List Int) (a1 : Int) (r : List Int) (w0 w : World) (hB : Below w0.heap.size w0 w) (ho0 : Kd.Z (Kd.int .u8) 5 w w0.heap.size P0_ u9000_ l0) (h : spec_l10Num.f k l0 a1 = some r) :
 Calls Tryz.prog 103 #[u9000_, .int .i64 a1] w fun e w' => ∃ v0_ : Value, e = .returned (v0_) ∧ Kd.R (Kd.int .u8) 5 w' w0.heap.size (fun k_ => (P0_ k_ ∨ w.heap.size ≤ k_)) v0_ r ∧ Below w0.heap.size w0 w' ∧ Kept w w' (fun k_ => P0_ k_) := by
 have HO0 := Aside0.mk (show Kd.Z (Kd.int .u8) 5 w w0.heap.size (fun k_ => (P0_ k_ ∨ w.heap.size ≤ k_)) u9000_ l0 from Kd.Z_mono ho0 (fun k_ hk => (.inl hk)))
 have HK := Aside0.mk (Kept.refl w (fun k_ => P0_ k_))
 have HW0 := Aside0.mk hB.size
 have HB := Aside0.mk hB
 clear hB
 have H : (spec_l10Num.l0 k l0 a1) = some r := h
 clear h
 have H' := Aside0.mk H
 clear H
 go_enter Tryz.func103, Tryz.ntmps103
 go_wp2
 go_loopg [0, 1] k (fun kq v0 v1 w' => ∃ (x0_1 : List Int) (x1_1 : Int), v1 = .int .i64 x1_1 ∧ Aside0 (spec_l10Num.l0 kq x0_1 x1_1 = some r) ∧ Aside0 (kq ≤ k) ∧ Aside0 (Kd.Z (Kd.int .u8) 5 w' w0.heap.size (fun k_ => (P0_ k_ ∨ w.heap.size ≤ k_)) v0 x0_1) ∧ Aside0 (Kept w w' (fun k_ => P0_ k_)) ∧ Aside0 (Below w0.heap.size w0 w'))
 case atStart => exact ⟨(l0), (a1), (by first | rfl | (simp; done) | (simp [*]; done)), H', ⟨Nat.le_refl _⟩, ⟨HO0.out⟩, ⟨by repeat (first | (with_reducible first | exact HK.out | apply Kept.alloc | apply Kept.drewN | apply Kept.drew) | exact HK.out)⟩, ⟨bw_ HB⟩⟩
 case round =>
  clear H'
  try clear c1
  try clear p2
  obtain ⟨x0_1, x1_1, rfl, HA, HK1, HO_0, HK, HB⟩ := hrel
  cases gk with
  | zero => exact absurd HA.out (by simp [spec_l10Num.l0])
  | succ k1 =>
       have H := HA.out
       clear HA
       simp only [spec_l10Num.l0] at H
       by_cases c3 : x1_1 ≥ 128
       {
       rw [if_pos c3] at H
       have c3b0 : decide (128 ≤ x1_1) = true := decide_eq_true c3
       clear c3
       by_cases c4 : x0_1.length < 140737488355328
       {
       rw [if_pos c4] at H
       have LMc4 := Aside0.mk c4
       clear c4
       obtain ⟨y157, hy157⟩ : ∃ y_ : List Int, y_ = (x0_1 ++ [(wrap64 ((Int.tmod x1_1 128) + 128)) % 256]) := ⟨_, rfl⟩
       replace H : (spec_l10Num.l0 k1 y157 (wrap64 (Int.tdiv x1_1 128))) = some r := rH_ hy157 H
       have Ny157 := Aside0.mk hy157
       clear hy157
       have H' := Aside0.mk H
       clear H
       go_wp2_with (first | ((with_reducible refine gate_builtin (b := .append) (xs := #[.tmp 7, .tmp 12]) rfl ?_); at_builtin; refine Kd.Z_append (Kd.int .u8) (w0 := w0) w0.heap.size rfl (.tmp 7) (.tmp 12) 88 5 (.int .u8 0) 1 rfl Tryz.underlying88 info5 rfl (by decide) (by omega) u0 x0_1 ((wrap64 ((Int.tmod x1_1 128) + 128)) % 256) [.int .u8 ((wrap64 ((Int.tmod x1_1 128) + 128)) % 256)] (fun k_ => (P0_ k_ ∨ w.heap.size ≤ k_)) (fun _ => False) rfl rfl ?aP (fun _ hk => hk.elim) ?aF ?aO ?aB ?aS ?aL rfl ?_; (case aP => exact rfl); (case aB => exact (bw_ HB)); (case aF => exact (fun k_ hk => (.inr (Nat.le_trans (by first | exact HK.out.1 | exact (show Kept w _ (fun k_ => P0_ k_) from by repeat (first | (with_reducible first | exact HK.out | apply Kept.alloc | apply Kept.drewN | apply Kept.drew) | exact HK.out)).1) hk)))); (case aO => exact (by (with_reducible repeat (first | apply Kd.R_alloc | apply Kd.R_drewN | apply Kd.R_drew)); exact HO_0.out)); (case aS => exact (below_size (bw_ HB))); (case aL => have := LMc4.out; omega); intro v158 w5 ho hb hg hat; rw [← Ny157.out] at ho; replace HB := Aside0.mk (hb); replace HK := Aside0.mk (Kept.of_grown (S := (fun k_ => P0_ k_)) hg (by repeat (first | (with_reducible first | exact HK.out | apply Kept.alloc | apply Kept.drewN | apply Kept.drew) | exact HK.out)) (fun k_ e_ => (Kd.Z_ok HO_0.out k_ e_))); have HO159 := Aside0.mk (ho); clear HO_0; clear ho hb hg hat))
       go_roundg k1
       case measure => have := HK1.out; omega
       case rel => exact ⟨(y157), (wrap64 (Int.tdiv x1_1 128)), (by first | rfl | (simp; done) | (simp [*]; done)), H', ⟨by have := HK1.out; omega⟩, ⟨Kd.Z_of (by (with_reducible repeat (first | apply Kd.R_alloc | apply Kd.R_drewN | apply Kd.R_drew)); exact HO159.out)⟩, ⟨by repeat (first | (with_reducible first | exact HK.out | apply Kept.alloc | apply Kept.drewN | apply Kept.drew) | exact HK.out)⟩, ⟨bw_ HB⟩⟩}
       {
       rw [if_neg c4] at H
       exact absurd H (by simp)}}
       {
       rw [if_neg c3] at H
       have c3b0 : decide (128 ≤ x1_1) = false := decide_eq_false c3
       clear c3
       by_cases c6 : x0_1.length < 140737488355328
       {
       rw [if_pos c6] at H
       have LMc6 := Aside0.mk c6
       clear c6
       obtain ⟨y160, hy160⟩ : ∃ y_ : List Int, y_ = (x0_1 ++ [(x1_1) % 256]) := ⟨_, rfl⟩
       replace H : (some y160) = some r := rH_ hy160 H
       have Ny160 := Aside0.mk hy160
       clear hy160
       obtain rfl := Option.some.inj H
       go_wp2_with (first | ((with_reducible refine gate_builtin (b := .append) (xs := #[.tmp 16, .tmp 19]) rfl ?_); at_builtin; refine Kd.Z_append (Kd.int .u8) (w0 := w0) w0.heap.size rfl (.tmp 16) (.tmp 19) 88 5 (.int .u8 0) 1 rfl Tryz.underlying88 info5 rfl (by decide) (by omega) u0 x0_1 ((x1_1) % 256) [.int .u8 ((x1_1) % 256)] (fun k_ => (P0_ k_ ∨ w.heap.size ≤ k_)) (fun _ => False) rfl rfl ?aP (fun _ hk => hk.elim) ?aF ?aO ?aB ?aS ?aL rfl ?_; (case aP => exact rfl); (case aB => exact (bw_ HB)); (case aF => exact (fun k_ hk => (.inr (Nat.le_trans (by first | exact HK.out.1 | exact (show Kept w _ (fun k_ => P0_ k_) from by repeat (first | (with_reducible first | exact HK.out | apply Kept.alloc | apply Kept.drewN | apply Kept.drew) | exact HK.out)).1) hk)))); (case aO => exact (by (with_reducible repeat (first | apply Kd.R_alloc | apply Kd.R_drewN | apply Kd.R_drew)); exact HO_0.out)); (case aS => exact (below_size (bw_ HB))); (case aL => have := LMc6.out; omega); intro v161 w7 ho hb hg hat; rw [← Ny160.out] at ho; replace HB := Aside0.mk (hb); replace HK := Aside0.mk (Kept.of_grown (S := (fun k_ => P0_ k_)) hg (by repeat (first | (with_reducible first | exact HK.out | apply Kept.alloc | apply Kept.drewN | apply Kept.drew) | exact HK.out)) (fun k_ e_ => (Kd.Z_ok HO_0.out k_ e_))); have HO162 := Aside0.mk (ho); clear HO_0; clear ho hb hg hat))
       go_ret
       exact ⟨_, eR_, by (with_reducible repeat (first | apply Kd.R_alloc | apply Kd.R_drewN | apply Kd.R_drew)); exact HO162.out, bw_ HB, by repeat (first | (with_reducible first | exact HK.out | apply Kept.alloc | apply Kept.drewN | apply Kept.drew) | exact HK.out)⟩}
       {
       rw [if_neg c6] at H
       exact absurd H (by simp)
}}
def spec_l10Text.f (k : Nat) (l0 : List Int) (a1 : ByteArray) : Option (List Int) := (spec_l10Num.f k l0 (a1.size : Int)).bind fun t163 => (if a1.size ≤ 9223372036854775807 then ((some (bytesOf a1 : List Int)).bind fun y166 => (if t163.length + y166.length < 140737488355328 then (some (t163 ++ y166)) else (none))) else (none))
theorem spec_l10Text.calls (k : Nat) (P0_ : Nat → Prop) (u9000_ : Value) (l0 : List Int) (a1 : ByteArray) (r : List Int) (w0 w : World) (hB : Below w0.heap.size w0 w) (ho0 : Kd.R (Kd.int .u8) 5 w w0.heap.size P0_ u9000_ l0) (h : spec_l10Text.f k l0 a1 = some r) :
 Calls Tryz.prog 104 #[u9000_, .string a1] w fun e w' => ∃ v0_ : Value, e = .returned (v0_) ∧ Kd.R (Kd.int .u8) 5 w' w0.heap.size (fun k_ => (P0_ k_ ∨ w.heap.size ≤ k_)) v0_ r ∧ Below w0.heap.size w0 w' ∧ Kept w w' (fun k_ => P0_ k_) := by
 have HO0 := Aside0.mk (show Kd.R (Kd.int .u8) 5 w w0.heap.size (fun k_ => (P0_ k_ ∨ w.heap.size ≤ k_)) u9000_ l0 from Kd.R_mono ho0 (fun k_ hk => (.inl hk)))
 have HK := Aside0.mk (Kept.refl w (fun k_ => P0_ k_))
 have HW0 := Aside0.mk hB.size
 have HB := Aside0.mk hB
 clear hB
 have H : ((spec_l10Num.f k l0 (a1.size : Int)).bind fun t163 => (if a1.size ≤ 9223372036854775807 then ((some (bytesOf a1 : List Int)).bind fun y166 => (if t163.length + y166.length < 140737488355328 then (some (t163 ++ y166)) else (none))) else (none))) = some r := h
 clear h
 replace H := Option.bind_eq_some_iff.mp H
 obtain ⟨t163, A30, H⟩ := H
 have A3 := Aside0.mk A30
 clear A30
 by_cases c4 : a1.size ≤ 9223372036854775807
 {
 rw [if_pos c4] at H
 have c4b0 := eq_true c4
 have c4b1 := decide_eq_true c4
 try have c4b2 : (9223372036854775807 < a1.size) = False := eq_false (Nat.not_lt.2 c4)
 clear c4
 obtain ⟨y166, hy166⟩ : ∃ y_ : List Int, y_ = (bytesOf a1) := ⟨_, rfl⟩
 replace H : (if t163.length + y166.length < 140737488355328 then (some (t163 ++ y166)) else (none)) = some r := rH_ hy166 H
 have Ny166 := Aside0.mk hy166
 clear hy166
 by_cases c5 : t163.length + y166.length < 140737488355328
 {
 rw [if_pos c5] at H
 have LMc5 := Aside0.mk c5
 clear c5
 obtain ⟨y168, hy168⟩ : ∃ y_ : List Int, y_ = (t163 ++ y166) := ⟨_, rfl⟩
 replace H : (some y168) = some r := rH_ hy168 H
 have Ny168 := Aside0.mk hy168
 clear hy168
 obtain rfl := Option.some.inj H
 obtain ⟨Ao6, co6, eo6⟩ := Kd.R_slice HO0.out
 subst eo6
 go_enter Tryz.func104, Tryz.ntmps104
 go_wp2_with (first | ((with_reducible refine gate_callee (f := 103) rfl ?_); refine gL_ (some 8) Tryz.func103 #[.slice Ao6 l0.length co6, .int .i64 (a1.size : Int)] ?_; (with_reducible refine (spec_l10Num.calls k (fun k_ => some k_ = (.slice Ao6 l0.length co6 : Value).ownBlock) (.slice Ao6 l0.length co6) l0 (a1.size : Int) t163 w0 _ ?side1 ?side2 A3.out).mono ?_); (case side1 => repeat (first | (with_reducible first | exact HB.out | apply below_alloc | apply pw_below_drewN | apply below_drew1) | exact HB.out)); (case side2 => exact Kd.R_tight rfl HO0.out); rintro e w7 ⟨v164, rfl, ho0, hb, hkp⟩; refine ⟨_, rfl, ?_⟩; have HO165 := Aside0.mk (Kd.R_mono (ok' := fun k_ => (P0_ k_ ∨ w.heap.size ≤ k_)) ho0 (fun k_ hk_ => Or.elim hk_ (fun hs_ => (HO0.out.1 k_ (hs_).symm)) (fun hn_ => (.inr (Nat.le_trans (by first | exact HK.out.1 | exact (show Kept w _ (fun k_ => P0_ k_) from by repeat (first | (with_reducible first | exact HK.out | apply Kept.alloc | apply Kept.drewN | apply Kept.drew) | exact HK.out)).1) hn_))))); replace HK := Aside0.mk (Kept.then_ (S := (fun k_ => P0_ k_)) (by repeat (first | (with_reducible first | exact HK.out | apply Kept.alloc | apply Kept.drewN | apply Kept.drew) | exact HK.out)) hkp (fun k_ hs_ => (fun e_ => (HO0.out.1 k_ e_.symm)) hs_)); replace HB := Aside0.mk (hb); clear HO0; (try clear hb); (try clear hkp); (try clear ho0)) | ((with_reducible refine gate_dst (N := 10) rfl ?_); refine conv_bytes rfl (N := 10) rfl 9 88 5 _ rfl Tryz.underlying9 Tryz.underlying88 Tryz.underlying5 a1 rfl (show a1.size ≤ 9223372036854775807 from by first | assumption | exact of_eq_true (by assumption) | exact of_decide_eq_true (by assumption) | decide | omega) _ Ny166.out ?_; intro A167 c167 w8 hcv hcl hb; replace HO165 := Aside0.mk (Kd.R_below (kr_ HO165) hb); replace HK := Aside0.mk (Kept.below (S := (fun k_ => P0_ k_)) (by repeat (first | (with_reducible first | exact HK.out | apply Kept.alloc | apply Kept.drewN | apply Kept.drew) | exact HK.out)) hb); replace HB := Aside0.mk (below_step (bw_ HB) hb); have HS167 := Aside0.mk (hcv); have HC167 := Aside0.mk (hcl); clear hb hcv hcl) | ((with_reducible refine gate_builtin (b := .append) (xs := #[.tmp 8, .tmp 10]) rfl ?_); at_builtin; refine Kd.R_append_rows (Kd.int .u8) (w0 := w0) w0.heap.size rfl (.tmp 8) (.tmp 10) 88 5 (.int .u8 0) 1 rfl Tryz.underlying88 info5 rfl (by decide) (by omega) v164 t163 y166 _ _ _ (fun k_ => (P0_ k_ ∨ w.heap.size ≤ k_)) (fun _ => False) rfl rfl ?aO ?aR (fun _ _ h => h) (fun _ h => h.elim) ?aF ?aB ?aS ?aL ?_; (case aR => repeat (first | exact (by repeat (first | (with_reducible exact HS167.out) | (with_reducible refine Kd.C_alloc ?_ _) | (with_reducible refine Kd.C_drewN ?_ _) | (with_reducible refine Kd.C_drew ?_) | exact HS167.out)) | (with_reducible refine Kd.C_alloc ?_ _) | (with_reducible refine Kd.C_drewN ?_ _) | (with_reducible refine Kd.C_drew ?_))); (case aB => exact (bw_ HB)); (case aF => exact (fun k_ hk => (.inr (Nat.le_trans (by first | exact HK.out.1 | exact (show Kept w _ (fun k_ => P0_ k_) from by repeat (first | (with_reducible first | exact HK.out | apply Kept.alloc | apply Kept.drewN | apply Kept.drew) | exact HK.out)).1) hk)))); (case aO => exact (kr_ HO165)); (case aS => exact (below_size (bw_ HB))); (case aL => have := LMc5.out; omega); intro v169 w9 ho hb hg hat; rw [← Ny168.out] at ho; replace HB := Aside0.mk (hb); replace HK := Aside0.mk (Kept.of_grown (S := (fun k_ => P0_ k_)) hg (by repeat (first | (with_reducible first | exact HK.out | apply Kept.alloc | apply Kept.drewN | apply Kept.drew) | exact HK.out)) (fun k_ e_ => (HO165.out.1 k_ e_))); have HO170 := Aside0.mk (ho); clear HO165; clear ho hb hg hat))
 go_ret
 exact ⟨_, eR_, kr_ HO170, bw_ HB, by repeat (first | (with_reducible first | exact HK.out | apply Kept.alloc | apply Kept.drewN | apply Kept.drew) | exact HK.out)⟩}
 {
 rw [if_neg c5] at H
 exact absurd H (by simp)}}
 {
 rw [if_neg c4] at H
 exact absurd H (by simp)
}
def spec_PackTree.l0 : Nat → List (S57) → List Int → Int → Option (List Int)
 | 0, _, _, _ => none
 | k + 1, x0, x3, x4 => if x4 < (x0.length : Int) then (if 0 ≤ x4 then (if (rd_T57 x0 x4).f3 = true then (if x3.length < 140737488355328 then ((spec_l10Text.f k (x3 ++ [(wrap64 (((rd_T57 x0 x4).f1) + 16)) % 256]) ((rd_T57 x0 x4).f0)).bind fun t187 => ((spec_l10Text.f k t187 ((rd_T57 x0 x4).f2)).bind fun t191 => (spec_PackTree.l0 k x0 t191 (wrap64 (x4 + 1))))) else (none)) else (if x3.length < 140737488355328 then ((spec_l10Text.f k (x3 ++ [((rd_T57 x0 x4).f1) % 256]) ((rd_T57 x0 x4).f0)).bind fun t198 => ((spec_l10Text.f k t198 ((rd_T57 x0 x4).f2)).bind fun t202 => (spec_PackTree.l0 k x0 t202 (wrap64 (x4 + 1))))) else (none))) else (none)) else (some x3)
def spec_PackTree.f (k : Nat) (l0 : List (S57)) : Option (List Int) := (spec_TreeOk.f k l0).bind fun t171 => (if t171 = true then ((spec_l10Num.f k (([76, 65, 82, 49] : List Int)) (l0.length : Int)).bind fun t178 => (spec_PackTree.l0 k l0 t178 0)) else (some (([] : List Int))))
def spec_PackTree.T11 : Bool × List (List Nat × List Nat) := (true, [([], []), ([], []), ([], []), ([1, 2], [1, 2]), ([3], [3]), ([4], [4]), ([0, 5], [0, 5]), ([], []), ([], []), ([7, 8], [7, 8]), ([9], [9]), ([10], [10]), ([6, 11, 6], [6, 11]), ([12, 12, 0, 1, 2, 3, 4, 5, 6, 7, 8, 9, 10, 11, 12], [0, 12])])
def spec_PackTree.B11 : List Nat := [0, 0, 0, 6, 14, 30, 63, 0, 0, 384, 896, 1920, 4095, 8191]
theorem spec_PackTree.tab11 : rtab .any (opsOf Tryz.f93 11) = spec_PackTree.T11 := by kernel_rfl
theorem spec_PackTree.bits11 : waitsOk spec_PackTree.T11.2 spec_PackTree.B11 = true := by kernel_rfl
theorem spec_PackTree.calls (k : Nat) (A0 : Option Addr) (c0 : Nat) (l0 : List (S57)) (r : List Int) (w : World) (hr0 : Kd.C k57 w A0 l0.length l0) (hc0 : l0.length ≤ c0) (h : spec_PackTree.f k l0 = some r) :
 Calls Tryz.prog 93 #[.slice A0 l0.length c0] w fun e w' => ∃ v0_ : Value, e = .returned (v0_) ∧ Kd.R (Kd.int .u8) 5 w' w.heap.size (fun _ => True) v0_ r ∧ Below w.heap.size w w' := by
 have HR0 := Aside0.mk hr0
 have HC0 := Aside0.mk hc0
 clear hr0 hc0
 have HB := Aside0.mk (Below.refl w.heap.size w)
 have H : ((spec_TreeOk.f k l0).bind fun t171 => (if t171 = true then ((spec_l10Num.f k (([76, 65, 82, 49] : List Int)) (l0.length : Int)).bind fun t178 => (spec_PackTree.l0 k l0 t178 0)) else (some (([] : List Int))))) = some r := h
 clear h
 replace H := Option.bind_eq_some_iff.mp H
 obtain ⟨t171, A20, H⟩ := H
 have A2 := Aside0.mk A20
 clear A20
 by_cases c3 : t171 = true
 {
 subst c3
 rw [if_pos rfl] at H
 obtain ⟨y175, hy175⟩ : ∃ y_ : List Int, y_ = (([76, 65, 82, 49] : List Int)) := ⟨_, rfl⟩
 replace H : ((spec_l10Num.f k y175 (l0.length : Int)).bind fun t178 => (spec_PackTree.l0 k l0 t178 0)) = some r := rH_ hy175 H
 have Ny175 := Aside0.mk hy175
 clear hy175
 replace H := Option.bind_eq_some_iff.mp H
 obtain ⟨t178, A40, H⟩ := H
 have A4 := Aside0.mk A40
 clear A40
 have H' := Aside0.mk H
 clear H
 go_enter Tryz.func93, Tryz.ntmps93
 go_wp2_with (first | ((with_reducible refine gate_callee (f := 44) rfl ?_); refine gL_ (some 7) Tryz.func44 #[.slice A0 l0.length c0] ?_; (with_reducible refine (spec_TreeOk.calls k _ _ l0 true _ ?side1 ?side2 A2.out).mono ?_); (case side1 => repeat (first | exact HR0.out | (with_reducible refine Kd.C_alloc ?_ _) | (with_reducible refine Kd.C_drewN ?_ _) | (with_reducible refine Kd.C_drew ?_))); (case side2 => exact HC0.out); rintro e w5 ⟨rfl, hb⟩; refine ⟨_, rfl, ?_⟩; replace HB := Aside0.mk (below_step (bw_ HB) hb); clear hb) | ((with_reducible refine gate_dst (N := 10) rfl ?_); refine Kd.Z_litc (Kd.int .u8) _ 5 ?hg (N := 10) ?hd (xs := ([76, 65, 82, 49] : List Int)) (inner := [.int .u8 76, .int .u8 65, .int .u8 82, .int .u8 49]) (ok := fun _ => True) (okp := fun _ => True) ?hr ?hp (fun _ hk => hk) trivial (Below.refl _ _) (Nat.le_refl _) (by simp) rfl rfl 88 rfl Tryz.underlying88 Tryz.underlying5 ?hev ?_; (case hev => intro u_; rfl); (case hd => rfl); (case hg => rfl); (case hr => first | (go_simp; done) | (go_simp; rfl)); (case hp => exact (Reps.one (show Kd.M (Kd.int .u8) _ _ _ 76 [.int .u8 76] from rfl) (Reps.one (show Kd.M (Kd.int .u8) _ _ _ 65 [.int .u8 65] from rfl) (Reps.one (show Kd.M (Kd.int .u8) _ _ _ 82 [.int .u8 82] from rfl) (Reps.one (show Kd.M (Kd.int .u8) _ _ _ 49 [.int .u8 49] from rfl) (Reps.none _ _)))))); intro v176 w6 ho7 hb hg_ hnew_; clear hg_ hnew_; (first | rw [← Ny175.out] at ho7 | (simp only [Int.reduceToNat] at ho7; rw [← Ny175.out] at ho7)); have HO177 := Aside0.mk (Kd.Z_lower ho7 (below_size (bw_ HB))); replace HB := Aside0.mk (below_step (bw_ HB) hb); clear hb ho7; obtain ⟨Ao8, co8, eo8⟩ := Kd.Z_slice HO177.out; subst eo8) | ((with_reducible refine gate_callee (f := 103) rfl ?_); refine gL_ (some 14) Tryz.func103 #[.slice Ao8 y175.length co8, .int .i64 (l0.length : Int)] ?_; (with_reducible refine (spec_l10Num.callsZ k (fun k_ => some k_ = (.slice Ao8 y175.length co8 : Value).ownBlock) (.slice Ao8 y175.length co8) y175 (l0.length : Int) t178 w _ ?side1 ?side2 A4.out).mono ?_); (case side1 => repeat (first | (with_reducible first | exact HB.out | apply below_alloc | apply pw_below_drewN | apply below_drew1) | exact HB.out)); (case side2 => exact Kd.Z_tight rfl HO177.out); rintro e w9 ⟨v179, rfl, ho0, hb, hkp⟩; refine ⟨_, rfl, ?_⟩; have HO180 := Aside0.mk (Kd.R_mono (ok' := fun k_ => True) ho0 (fun k_ hk_ => trivial)); replace HB := Aside0.mk (hb); clear HO177; (try clear hb); (try clear hkp); (try clear ho0)))
 go_loopg [3, 4] k (fun kq v3 v4 w' => ∃ (x3_1 : List Int) (x4_1 : Int), v4 = .int .i64 x4_1 ∧ Aside0 (spec_PackTree.l0 kq l0 x3_1 x4_1 = some r) ∧ Aside0 (kq ≤ k) ∧ Aside0 (Kd.R (Kd.int .u8) 5 w' w.heap.size (fun _ => True) v3 x3_1) ∧ Aside0 (Below w.heap.size w w'))
 case atStart => exact ⟨(t178), (0), (by first | rfl | (simp; done) | (simp [*]; done)), H', ⟨Nat.le_refl _⟩, ⟨kr_ HO180⟩, ⟨bw_ HB⟩⟩
 case round =>
  clear H'
  try clear c1
  try clear p2
  try clear c3
  try clear c4
  try clear c9
  obtain ⟨x3_1, x4_1, rfl, HA, HK1, HO_3, HB⟩ := hrel
  cases gk with
  | zero => exact absurd HA.out (by simp [spec_PackTree.l0])
  | succ k1 =>
       have H := HA.out
       clear HA
       simp only [spec_PackTree.l0] at H
       by_cases c10 : x4_1 < (l0.length : Int)
       {
       rw [if_pos c10] at H
       have c10b0 := decide_eq_true c10
       clear c10
       by_cases c11 : 0 ≤ x4_1
       {
       rw [if_pos c11] at H
       have c11b0 := decide_eq_true c11
       clear c11
       obtain ⟨bq12, hbq12⟩ : ∃ b_ : Bool, b_ = ((rd_T57 l0 x4_1).f3) := ⟨_, rfl⟩
       replace H : (if bq12 = true then (if x3_1.length < 140737488355328 then ((spec_l10Text.f k1 (x3_1 ++ [(wrap64 (((rd_T57 l0 x4_1).f1) + 16)) % 256]) ((rd_T57 l0 x4_1).f0)).bind fun t187 => ((spec_l10Text.f k1 t187 ((rd_T57 l0 x4_1).f2)).bind fun t191 => (spec_PackTree.l0 k1 l0 t191 (wrap64 (x4_1 + 1))))) else (none)) else (if x3_1.length < 140737488355328 then ((spec_l10Text.f k1 (x3_1 ++ [((rd_T57 l0 x4_1).f1) % 256]) ((rd_T57 l0 x4_1).f0)).bind fun t198 => ((spec_l10Text.f k1 t198 ((rd_T57 l0 x4_1).f2)).bind fun t202 => (spec_PackTree.l0 k1 l0 t202 (wrap64 (x4_1 + 1))))) else (none))) = some r := by rw [← hbq12] at H; exact H
       have Nbq12 := Aside0.mk hbq12
       clear hbq12
       by_cases c13 : bq12 = true
       {
       subst c13
       rw [if_pos rfl] at H
       by_cases c14 : x3_1.length < 140737488355328
       {
       rw [if_pos c14] at H
       have LMc14 := Aside0.mk c14
       clear c14
       obtain ⟨y183, hy183⟩ : ∃ y_ : List Int, y_ = (x3_1 ++ [(wrap64 (((rd_T57 l0 x4_1).f1) + 16)) % 256]) := ⟨_, rfl⟩
       replace H : ((spec_l10Text.f k1 y183 ((rd_T57 l0 x4_1).f0)).bind fun t187 => ((spec_l10Text.f k1 t187 ((rd_T57 l0 x4_1).f2)).bind fun t191 => (spec_PackTree.l0 k1 l0 t191 (wrap64 (x4_1 + 1))))) = some r := rH_ hy183 H
       have Ny183 := Aside0.mk hy183
       clear hy183
       replace H := Option.bind_eq_some_iff.mp H
       obtain ⟨t187, A150, H⟩ := H
       have A15 := Aside0.mk A150
       clear A150
       replace H := Option.bind_eq_some_iff.mp H
       obtain ⟨t191, A160, H⟩ := H
       have A16 := Aside0.mk A160
       clear A160
       have H' := Aside0.mk H
       clear H
       have p181 : 0 ≤ (x4_1 : Int) := dA_
       have q181 : x4_1 < (l0.length : Int) := dA_
       obtain ⟨ad181, e181, hx181_0, hx181_1, hx181_2, hx181_3⟩ := at_T57 HR0.out x4_1 p181 q181
       (try rw [← Nbq12.out] at hx181_3)
       cases e181
       replace hx181_0 := hX_ HB hx181_0
       replace hx181_1 := hX_ HB hx181_1
       replace hx181_2 := hX_ HB hx181_2
       replace hx181_3 := hX_ HB hx181_3
       replace p181 := eq_true p181
       replace q181 := eq_true q181
       have p182 : 0 ≤ (x4_1 : Int) := dA_
       have q182 : x4_1 < (l0.length : Int) := dA_
       obtain ⟨ad182, e182, hx182_0, hx182_1, hx182_2, hx182_3⟩ := at_T57 HR0.out x4_1 p182 q182
       (try rw [← Nbq12.out] at hx182_3)
       obtain rfl : ad181 = ad182 := (by injection e182)
       replace hx182_0 := hX_ HB hx182_0
       replace hx182_1 := hX_ HB hx182_1
       replace hx182_2 := hX_ HB hx182_2
       replace hx182_3 := hX_ HB hx182_3
       replace p182 := eq_true p182
       replace q182 := eq_true q182
       try go_wp2_with (first | ((with_reducible refine gate_builtin (b := .append) (xs := #[.tmp 33, .tmp 36]) rfl ?_); at_builtin; refine Kd.R_append (Kd.int .u8) (w0 := w) w.heap.size rfl (.tmp 33) (.tmp 36) 88 5 (.int .u8 0) 1 rfl Tryz.underlying88 info5 rfl (by decide) (by omega) u3 x3_1 ((wrap64 (((rd_T57 l0 x4_1).f1) + 16)) % 256) [.int .u8 ((wrap64 (((rd_T57 l0 x4_1).f1) + 16)) % 256)] (fun _ => True) (fun _ => False) rfl rfl ?aP (fun _ hk => hk.elim) ?aF ?aO ?aB ?aS ?aL ?_; (case aP => exact rfl); (case aB => exact (bw_ HB)); (case aF => exact (fun _ _ => trivial)); (case aO => exact (kr_ HO_3)); (case aS => exact (below_size (bw_ HB))); (case aL => have := LMc14.out; omega); intro v184 w17 ho hb hg hat; rw [← Ny183.out] at ho; replace HB := Aside0.mk (hb); have HO185 := Aside0.mk (ho); clear HO_3; clear ho hb hg hat))
       replace HO185 := Aside0.mk (Kd.R_drew HO185.out)
       replace HB := Aside0.mk (below_drew1 HB.out)
       have p186 : 0 ≤ (x4_1 : Int) := dA_
       have q186 : x4_1 < (l0.length : Int) := dA_
       obtain ⟨ad186, e186, hx186_0, hx186_1, hx186_2, hx186_3⟩ := at_T57 HR0.out x4_1 p186 q186
       have hw186_3 := hx186_3
       (try rw [← Nbq12.out] at hw186_3)
       have hw186_2 := hx186_2
       (try rw [← Nbq12.out] at hw186_2)
       have hw186_1 := hx186_1
       (try rw [← Nbq12.out] at hw186_1)
       have hw186_0 := hx186_0
       (try rw [← Nbq12.out] at hw186_0)
       (try rw [← Nbq12.out] at hx186_3)
       obtain rfl : ad181 = ad186 := (by injection e186)
       replace hx186_0 := hX_ HB hx186_0
       replace hx186_1 := hX_ HB hx186_1
       replace hx186_2 := hX_ HB hx186_2
       replace hx186_3 := hX_ HB hx186_3
       replace p186 := eq_true p186
       replace q186 := eq_true q186
       have p190 : 0 ≤ (x4_1 : Int) := dA_
       have q190 : x4_1 < (l0.length : Int) := dA_
       obtain ⟨ad190, e190, hx190_0, hx190_1, hx190_2, hx190_3⟩ := at_T57 HR0.out x4_1 p190 q190
       have hw190_3 := hx190_3
       (try rw [← Nbq12.out] at hw190_3)
       have hw190_2 := hx190_2
       (try rw [← Nbq12.out] at hw190_2)
       have hw190_1 := hx190_1
       (try rw [← Nbq12.out] at hw190_1)
       have hw190_0 := hx190_0
       (try rw [← Nbq12.out] at hw190_0)
       (try rw [← Nbq12.out] at hx190_3)
       obtain rfl : ad181 = ad190 := (by injection e190)
       replace hx190_0 := hX_ HB hx190_0
       replace hx190_1 := hX_ HB hx190_1
       replace hx190_2 := hX_ HB hx190_2
       replace hx190_3 := hX_ HB hx190_3
       replace p190 := eq_true p190
       replace q190 := eq_true q190
       obtain ⟨Ao19, co19, eo19⟩ := Kd.R_slice HO185.out
       (first | subst eo19 | (injection eo19 with f1_ f2_ f3_; have f4_ := f1_.symm; have f5_ := f3_.symm; clear f1_ f2_ f3_; subst f4_; subst f5_))
       refine start_ (n := 14) (S := fun w' => w'.cell? (ad181.add ((x4_1).toNat * 4)) = some (.string ((rd_T57 l0 x4_1).f0)) ∧ w'.cell? ⟨(ad181.add ((x4_1).toNat * 4)).block, (ad181.add ((x4_1).toNat * 4)).off + 1, none⟩ = some (.int .i64 ((rd_T57 l0 x4_1).f1)) ∧ w'.cell? ⟨(ad181.add ((x4_1).toNat * 4)).block, (ad181.add ((x4_1).toNat * 4)).off + 2, none⟩ = some (.string ((rd_T57 l0 x4_1).f2)) ∧ w'.cell? ⟨(ad181.add ((x4_1).toNat * 4)).block, (ad181.add ((x4_1).toNat * 4)).off + 3, none⟩ = some (.bool (true)) ∧ w'.cell? (ad181.add ((x4_1).toNat * 4)) = some (.string ((rd_T57 l0 x4_1).f0)) ∧ w'.cell? ⟨(ad181.add ((x4_1).toNat * 4)).block, (ad181.add ((x4_1).toNat * 4)).off + 1, none⟩ = some (.int .i64 ((rd_T57 l0 x4_1).f1)) ∧ w'.cell? ⟨(ad181.add ((x4_1).toNat * 4)).block, (ad181.add ((x4_1).toNat * 4)).off + 2, none⟩ = some (.string ((rd_T57 l0 x4_1).f2)) ∧ w'.cell? ⟨(ad181.add ((x4_1).toNat * 4)).block, (ad181.add ((x4_1).toNat * 4)).off + 3, none⟩ = some (.bool (true))) (ds := []) (bs_ 14 0) (by kernel_rfl) rfl (by kernel_rfl) ⟨((HB.out.cell (World.block_lt_of_cell? w _ hw186_0)).trans hw186_0), ((HB.out.cell (World.block_lt_of_cell? w _ hw186_1)).trans hw186_1), ((HB.out.cell (World.block_lt_of_cell? w _ hw186_2)).trans hw186_2), ((HB.out.cell (World.block_lt_of_cell? w _ hw186_3)).trans hw186_3), ((HB.out.cell (World.block_lt_of_cell? w _ hw190_0)).trans hw190_0), ((HB.out.cell (World.block_lt_of_cell? w _ hw190_1)).trans hw190_1), ((HB.out.cell (World.block_lt_of_cell? w _ hw190_2)).trans hw190_2), ((HB.out.cell (World.block_lt_of_cell? w _ hw190_3)).trans hw190_3)⟩ (fun hHeld => ?_); refine with_tabW spec_PackTree.tab11 spec_PackTree.bits11 (fun HT_ HW_ => ?_)
       generalize w17.drew = w18 at HO185 HB hx186_0 hx186_1 hx186_2 hx186_3 hx190_0 hx190_1 hx190_2 hx190_3 hHeld ⊢
       refine pS_ 0 ?_
       refine pS_ 1 ?_
       refine pS_ 2 ?_
       refine pS_ 3 ?_
       refine pS_ 4 ?_
       refine pS_ 7 ?_
       refine pS_ 8 ?_
       refine pS_ 9 ?_
       refine pS_ 10 ?_
       refine t8_ 5 hHeld ?_
       refine t8_ 11 hHeld ?_
       refine oS_ 6 (fun K hK => ?_)
       refine gS_ Tryz.func104 #[.slice Ao19 y183.length co19, .string ((rd_T57 l0 x4_1).f0)] ?_
       with_reducible refine (spec_l10Text.calls k1 (fun k_ => some k_ = (.slice Ao19 y183.length co19 : Value).ownBlock) (.slice Ao19 y183.length co19) y183 ((rd_T57 l0 x4_1).f0) t187 w _ ?side1 ?side2 A15.out).mono ?_
       (case side1 => repeat (first | (with_reducible first | exact HB.out | apply below_alloc | apply pw_below_drewN | apply below_drew1) | exact HB.out))
       (case side2 => exact Kd.R_tight rfl HO185.out)
       rintro e w20 ⟨v188, rfl, ho0, hb, hkp⟩
       refine ⟨_, rfl, ?_⟩
       have HO189 := Aside0.mk (Kd.R_mono (ok' := fun k_ => True) ho0 (fun k_ hk_ => trivial))
       replace HB := Aside0.mk (hb)
       clear HO185
       (try clear hb)
       (try clear hkp)
       (try clear ho0)
       obtain ⟨Ao21, co21, eo21⟩ := Kd.R_slice HO189.out
       (first | subst eo21 | (injection eo21 with f1_ f2_ f3_; have f4_ := f1_.symm; have f5_ := f3_.symm; clear f1_ f2_ f3_; subst f4_; subst f5_))
       refine hK.out _ _ ⟨((HB.out.cell (World.block_lt_of_cell? w _ hw186_0)).trans hw186_0), ((HB.out.cell (World.block_lt_of_cell? w _ hw186_1)).trans hw186_1), ((HB.out.cell (World.block_lt_of_cell? w _ hw186_2)).trans hw186_2), ((HB.out.cell (World.block_lt_of_cell? w _ hw186_3)).trans hw186_3), ((HB.out.cell (World.block_lt_of_cell? w _ hw190_0)).trans hw190_0), ((HB.out.cell (World.block_lt_of_cell? w _ hw190_1)).trans hw190_1), ((HB.out.cell (World.block_lt_of_cell? w _ hw190_2)).trans hw190_2), ((HB.out.cell (World.block_lt_of_cell? w _ hw190_3)).trans hw190_3)⟩ (fun hHeld => ?_)
       clear hK K
       refine nS_ 44 ?_
       refine oS_ 12 (fun K hK => ?_)
       refine gS_ Tryz.func104 #[.slice Ao21 t187.length co21, .string ((rd_T57 l0 x4_1).f2)] ?_
       with_reducible refine (spec_l10Text.calls k1 (fun k_ => some k_ = (.slice Ao21 t187.length co21 : Value).ownBlock) (.slice Ao21 t187.length co21) t187 ((rd_T57 l0 x4_1).f2) t191 w _ ?side1 ?side2 A16.out).mono ?_
       (case side1 => repeat (first | (with_reducible first | exact HB.out | apply below_alloc | apply pw_below_drewN | apply below_drew1) | exact HB.out))
       (case side2 => exact Kd.R_tight rfl HO189.out)
       rintro e w22 ⟨v192, rfl, ho0, hb, hkp⟩
       refine ⟨_, rfl, ?_⟩
       have HO193 := Aside0.mk (Kd.R_mono (ok' := fun k_ => True) ho0 (fun k_ hk_ => trivial))
       replace HB := Aside0.mk (hb)
       clear HO189
       (try clear hb)
       (try clear hkp)
       (try clear ho0)
       refine hK.out _ _ ⟨((HB.out.cell (World.block_lt_of_cell? w _ hw186_0)).trans hw186_0), ((HB.out.cell (World.block_lt_of_cell? w _ hw186_1)).trans hw186_1), ((HB.out.cell (World.block_lt_of_cell? w _ hw186_2)).trans hw186_2), ((HB.out.cell (World.block_lt_of_cell? w _ hw186_3)).trans hw186_3), ((HB.out.cell (World.block_lt_of_cell? w _ hw190_0)).trans hw190_0), ((HB.out.cell (World.block_lt_of_cell? w _ hw190_1)).trans hw190_1), ((HB.out.cell (World.block_lt_of_cell? w _ hw190_2)).trans hw190_2), ((HB.out.cell (World.block_lt_of_cell? w _ hw190_3)).trans hw190_3)⟩ (fun hHeld => ?_)
       clear hK K
       refine nS_ 50 ?_
       refine pS_ 13 ?_
       refine done_ (done_of HT_.out (by kernel_rfl)) ?_
       try go_wp2
       go_roundg k1
       case measure => have := HK1.out; omega
       case rel => exact ⟨(t191), (wrap64 (x4_1 + 1)), (by first | rfl | (simp; done) | (simp [*]; done)), H', ⟨by have := HK1.out; omega⟩, ⟨kr_ HO193⟩, ⟨bw_ HB⟩⟩}
       {
       rw [if_neg c14] at H
       exact absurd H (by simp)}}
       {
       replace c13 := Bool.eq_false_iff.mpr c13
       subst c13
       rw [if_neg (show ¬ (false = true) by decide)] at H
       by_cases c23 : x3_1.length < 140737488355328
       {
       rw [if_pos c23] at H
       have LMc23 := Aside0.mk c23
       clear c23
       obtain ⟨y194, hy194⟩ : ∃ y_ : List Int, y_ = (x3_1 ++ [((rd_T57 l0 x4_1).f1) % 256]) := ⟨_, rfl⟩
       replace H : ((spec_l10Text.f k1 y194 ((rd_T57 l0 x4_1).f0)).bind fun t198 => ((spec_l10Text.f k1 t198 ((rd_T57 l0 x4_1).f2)).bind fun t202 => (spec_PackTree.l0 k1 l0 t202 (wrap64 (x4_1 + 1))))) = some r := rH_ hy194 H
       have Ny194 := Aside0.mk hy194
       clear hy194
       replace H := Option.bind_eq_some_iff.mp H
       obtain ⟨t198, A240, H⟩ := H
       have A24 := Aside0.mk A240
       clear A240
       replace H := Option.bind_eq_some_iff.mp H
       obtain ⟨t202, A250, H⟩ := H
       have A25 := Aside0.mk A250
       clear A250
       have H' := Aside0.mk H
       clear H
       have p181 : 0 ≤ (x4_1 : Int) := dA_
       have q181 : x4_1 < (l0.length : Int) := dA_
       obtain ⟨ad181, e181, hx181_0, hx181_1, hx181_2, hx181_3⟩ := at_T57 HR0.out x4_1 p181 q181
       (try rw [← Nbq12.out] at hx181_3)
       cases e181
       replace hx181_0 := hX_ HB hx181_0
       replace hx181_1 := hX_ HB hx181_1
       replace hx181_2 := hX_ HB hx181_2
       replace hx181_3 := hX_ HB hx181_3
       replace p181 := eq_true p181
       replace q181 := eq_true q181
       have p182 : 0 ≤ (x4_1 : Int) := dA_
       have q182 : x4_1 < (l0.length : Int) := dA_
       obtain ⟨ad182, e182, hx182_0, hx182_1, hx182_2, hx182_3⟩ := at_T57 HR0.out x4_1 p182 q182
       (try rw [← Nbq12.out] at hx182_3)
       obtain rfl : ad181 = ad182 := (by injection e182)
       replace hx182_0 := hX_ HB hx182_0
       replace hx182_1 := hX_ HB hx182_1
       replace hx182_2 := hX_ HB hx182_2
       replace hx182_3 := hX_ HB hx182_3
       replace p182 := eq_true p182
       replace q182 := eq_true q182
       try go_wp2_with (first | ((with_reducible refine gate_builtin (b := .append) (xs := #[.tmp 33, .tmp 36]) rfl ?_); at_builtin; refine Kd.R_append (Kd.int .u8) (w0 := w) w.heap.size rfl (.tmp 33) (.tmp 36) 88 5 (.int .u8 0) 1 rfl Tryz.underlying88 info5 rfl (by decide) (by omega) u3 x3_1 (((rd_T57 l0 x4_1).f1) % 256) [.int .u8 (((rd_T57 l0 x4_1).f1) % 256)] (fun _ => True) (fun _ => False) rfl rfl ?aP (fun _ hk => hk.elim) ?aF ?aO ?aB ?aS ?aL ?_; (case aP => exact rfl); (case aB => exact (bw_ HB)); (case aF => exact (fun _ _ => trivial)); (case aO => exact (kr_ HO_3)); (case aS => exact (below_size (bw_ HB))); (case aL => have := LMc23.out; omega); intro v195 w26 ho hb hg hat; rw [← Ny194.out] at ho; replace HB := Aside0.mk (hb); have HO196 := Aside0.mk (ho); clear HO_3; clear ho hb hg hat))
       replace HO196 := Aside0.mk (Kd.R_drew HO196.out)
       replace HB := Aside0.mk (below_drew1 HB.out)
       have p197 : 0 ≤ (x4_1 : Int) := dA_
       have q197 : x4_1 < (l0.length : Int) := dA_
       obtain ⟨ad197, e197, hx197_0, hx197_1, hx197_2, hx197_3⟩ := at_T57 HR0.out x4_1 p197 q197
       have hw197_3 := hx197_3
       (try rw [← Nbq12.out] at hw197_3)
       have hw197_2 := hx197_2
       (try rw [← Nbq12.out] at hw197_2)
       have hw197_1 := hx197_1
       (try rw [← Nbq12.out] at hw197_1)
       have hw197_0 := hx197_0
       (try rw [← Nbq12.out] at hw197_0)
       (try rw [← Nbq12.out] at hx197_3)
       obtain rfl : ad181 = ad197 := (by injection e197)
       replace hx197_0 := hX_ HB hx197_0
       replace hx197_1 := hX_ HB hx197_1
       replace hx197_2 := hX_ HB hx197_2
       replace hx197_3 := hX_ HB hx197_3
       replace p197 := eq_true p197
       replace q197 := eq_true q197
       have p201 : 0 ≤ (x4_1 : Int) := dA_
       have q201 : x4_1 < (l0.length : Int) := dA_
       obtain ⟨ad201, e201, hx201_0, hx201_1, hx201_2, hx201_3⟩ := at_T57 HR0.out x4_1 p201 q201
       have hw201_3 := hx201_3
       (try rw [← Nbq12.out] at hw201_3)
       have hw201_2 := hx201_2
       (try rw [← Nbq12.out] at hw201_2)
       have hw201_1 := hx201_1
       (try rw [← Nbq12.out] at hw201_1)
       have hw201_0 := hx201_0
       (try rw [← Nbq12.out] at hw201_0)
       (try rw [← Nbq12.out] at hx201_3)
       obtain rfl : ad181 = ad201 := (by injection e201)
       replace hx201_0 := hX_ HB hx201_0
       replace hx201_1 := hX_ HB hx201_1
       replace hx201_2 := hX_ HB hx201_2
       replace hx201_3 := hX_ HB hx201_3
       replace p201 := eq_true p201
       replace q201 := eq_true q201
       obtain ⟨Ao28, co28, eo28⟩ := Kd.R_slice HO196.out
       (first | subst eo28 | (injection eo28 with f1_ f2_ f3_; have f4_ := f1_.symm; have f5_ := f3_.symm; clear f1_ f2_ f3_; subst f4_; subst f5_))
       refine start_ (n := 14) (S := fun w' => w'.cell? (ad181.add ((x4_1).toNat * 4)) = some (.string ((rd_T57 l0 x4_1).f0)) ∧ w'.cell? ⟨(ad181.add ((x4_1).toNat * 4)).block, (ad181.add ((x4_1).toNat * 4)).off + 1, none⟩ = some (.int .i64 ((rd_T57 l0 x4_1).f1)) ∧ w'.cell? ⟨(ad181.add ((x4_1).toNat * 4)).block, (ad181.add ((x4_1).toNat * 4)).off + 2, none⟩ = some (.string ((rd_T57 l0 x4_1).f2)) ∧ w'.cell? ⟨(ad181.add ((x4_1).toNat * 4)).block, (ad181.add ((x4_1).toNat * 4)).off + 3, none⟩ = some (.bool (false)) ∧ w'.cell? (ad181.add ((x4_1).toNat * 4)) = some (.string ((rd_T57 l0 x4_1).f0)) ∧ w'.cell? ⟨(ad181.add ((x4_1).toNat * 4)).block, (ad181.add ((x4_1).toNat * 4)).off + 1, none⟩ = some (.int .i64 ((rd_T57 l0 x4_1).f1)) ∧ w'.cell? ⟨(ad181.add ((x4_1).toNat * 4)).block, (ad181.add ((x4_1).toNat * 4)).off + 2, none⟩ = some (.string ((rd_T57 l0 x4_1).f2)) ∧ w'.cell? ⟨(ad181.add ((x4_1).toNat * 4)).block, (ad181.add ((x4_1).toNat * 4)).off + 3, none⟩ = some (.bool (false))) (ds := []) (bs_ 14 0) (by kernel_rfl) rfl (by kernel_rfl) ⟨((HB.out.cell (World.block_lt_of_cell? w _ hw197_0)).trans hw197_0), ((HB.out.cell (World.block_lt_of_cell? w _ hw197_1)).trans hw197_1), ((HB.out.cell (World.block_lt_of_cell? w _ hw197_2)).trans hw197_2), ((HB.out.cell (World.block_lt_of_cell? w _ hw197_3)).trans hw197_3), ((HB.out.cell (World.block_lt_of_cell? w _ hw201_0)).trans hw201_0), ((HB.out.cell (World.block_lt_of_cell? w _ hw201_1)).trans hw201_1), ((HB.out.cell (World.block_lt_of_cell? w _ hw201_2)).trans hw201_2), ((HB.out.cell (World.block_lt_of_cell? w _ hw201_3)).trans hw201_3)⟩ (fun hHeld => ?_); refine with_tabW spec_PackTree.tab11 spec_PackTree.bits11 (fun HT_ HW_ => ?_)
       generalize w26.drew = w27 at HO196 HB hx197_0 hx197_1 hx197_2 hx197_3 hx201_0 hx201_1 hx201_2 hx201_3 hHeld ⊢
       refine pS_ 0 ?_
       refine pS_ 1 ?_
       refine pS_ 2 ?_
       refine pS_ 3 ?_
       refine pS_ 4 ?_
       refine pS_ 7 ?_
       refine pS_ 8 ?_
       refine pS_ 9 ?_
       refine pS_ 10 ?_
       refine t8_ 5 hHeld ?_
       refine t8_ 11 hHeld ?_
       refine oS_ 6 (fun K hK => ?_)
       refine gS_ Tryz.func104 #[.slice Ao28 y194.length co28, .string ((rd_T57 l0 x4_1).f0)] ?_
       with_reducible refine (spec_l10Text.calls k1 (fun k_ => some k_ = (.slice Ao28 y194.length co28 : Value).ownBlock) (.slice Ao28 y194.length co28) y194 ((rd_T57 l0 x4_1).f0) t198 w _ ?side1 ?side2 A24.out).mono ?_
       (case side1 => repeat (first | (with_reducible first | exact HB.out | apply below_alloc | apply pw_below_drewN | apply below_drew1) | exact HB.out))
       (case side2 => exact Kd.R_tight rfl HO196.out)
       rintro e w29 ⟨v199, rfl, ho0, hb, hkp⟩
       refine ⟨_, rfl, ?_⟩
       have HO200 := Aside0.mk (Kd.R_mono (ok' := fun k_ => True) ho0 (fun k_ hk_ => trivial))
       replace HB := Aside0.mk (hb)
       clear HO196
       (try clear hb)
       (try clear hkp)
       (try clear ho0)
       obtain ⟨Ao30, co30, eo30⟩ := Kd.R_slice HO200.out
       (first | subst eo30 | (injection eo30 with f1_ f2_ f3_; have f4_ := f1_.symm; have f5_ := f3_.symm; clear f1_ f2_ f3_; subst f4_; subst f5_))
       refine hK.out _ _ ⟨((HB.out.cell (World.block_lt_of_cell? w _ hw197_0)).trans hw197_0), ((HB.out.cell (World.block_lt_of_cell? w _ hw197_1)).trans hw197_1), ((HB.out.cell (World.block_lt_of_cell? w _ hw197_2)).trans hw197_2), ((HB.out.cell (World.block_lt_of_cell? w _ hw197_3)).trans hw197_3), ((HB.out.cell (World.block_lt_of_cell? w _ hw201_0)).trans hw201_0), ((HB.out.cell (World.block_lt_of_cell? w _ hw201_1)).trans hw201_1), ((HB.out.cell (World.block_lt_of_cell? w _ hw201_2)).trans hw201_2), ((HB.out.cell (World.block_lt_of_cell? w _ hw201_3)).trans hw201_3)⟩ (fun hHeld => ?_)
       clear hK K
       refine nS_ 44 ?_
       refine oS_ 12 (fun K hK => ?_)
       refine gS_ Tryz.func104 #[.slice Ao30 t198.length co30, .string ((rd_T57 l0 x4_1).f2)] ?_
       with_reducible refine (spec_l10Text.calls k1 (fun k_ => some k_ = (.slice Ao30 t198.length co30 : Value).ownBlock) (.slice Ao30 t198.length co30) t198 ((rd_T57 l0 x4_1).f2) t202 w _ ?side1 ?side2 A25.out).mono ?_
       (case side1 => repeat (first | (with_reducible first | exact HB.out | apply below_alloc | apply pw_below_drewN | apply below_drew1) | exact HB.out))
       (case side2 => exact Kd.R_tight rfl HO200.out)
       rintro e w31 ⟨v203, rfl, ho0, hb, hkp⟩
       refine ⟨_, rfl, ?_⟩
       have HO204 := Aside0.mk (Kd.R_mono (ok' := fun k_ => True) ho0 (fun k_ hk_ => trivial))
       replace HB := Aside0.mk (hb)
       clear HO200
       (try clear hb)
       (try clear hkp)
       (try clear ho0)
       refine hK.out _ _ ⟨((HB.out.cell (World.block_lt_of_cell? w _ hw197_0)).trans hw197_0), ((HB.out.cell (World.block_lt_of_cell? w _ hw197_1)).trans hw197_1), ((HB.out.cell (World.block_lt_of_cell? w _ hw197_2)).trans hw197_2), ((HB.out.cell (World.block_lt_of_cell? w _ hw197_3)).trans hw197_3), ((HB.out.cell (World.block_lt_of_cell? w _ hw201_0)).trans hw201_0), ((HB.out.cell (World.block_lt_of_cell? w _ hw201_1)).trans hw201_1), ((HB.out.cell (World.block_lt_of_cell? w _ hw201_2)).trans hw201_2), ((HB.out.cell (World.block_lt_of_cell? w _ hw201_3)).trans hw201_3)⟩ (fun hHeld => ?_)
       clear hK K
       refine nS_ 50 ?_
       refine pS_ 13 ?_
       refine done_ (done_of HT_.out (by kernel_rfl)) ?_
       try go_wp2
       go_roundg k1
       case measure => have := HK1.out; omega
       case rel => exact ⟨(t202), (wrap64 (x4_1 + 1)), (by first | rfl | (simp; done) | (simp [*]; done)), H', ⟨by have := HK1.out; omega⟩, ⟨kr_ HO204⟩, ⟨bw_ HB⟩⟩}
       {
       rw [if_neg c23] at H
       exact absurd H (by simp)}}}
       {
       rw [if_neg c11] at H
       exact absurd H (by simp)}}
       {
       rw [if_neg c10] at H
       have c10b0 := decide_eq_false c10
       clear c10
       obtain rfl := Option.some.inj H
       go_wp2
       go_ret
       exact ⟨_, eR_, kr_ HO_3, bw_ HB⟩}}
 {
 replace c3 := Bool.eq_false_iff.mpr c3
 subst c3
 rw [if_neg (show ¬ (false = true) by decide)] at H
 obtain ⟨y172, hy172⟩ : ∃ y_ : List Int, y_ = (([] : List Int)) := ⟨_, rfl⟩
 replace H : (some y172) = some r := rH_ hy172 H
 have Ny172 := Aside0.mk hy172
 clear hy172
 obtain rfl := Option.some.inj H
 go_enter Tryz.func93, Tryz.ntmps93
 go_wp2_with (first | ((with_reducible refine gate_callee (f := 44) rfl ?_); refine gL_ (some 7) Tryz.func44 #[.slice A0 l0.length c0] ?_; (with_reducible refine (spec_TreeOk.calls k _ _ l0 false _ ?side1 ?side2 A2.out).mono ?_); (case side1 => repeat (first | exact HR0.out | (with_reducible refine Kd.C_alloc ?_ _) | (with_reducible refine Kd.C_drewN ?_ _) | (with_reducible refine Kd.C_drew ?_))); (case side2 => exact HC0.out); rintro e w32 ⟨rfl, hb⟩; refine ⟨_, rfl, ?_⟩; replace HB := Aside0.mk (below_step (bw_ HB) hb); clear hb) | ((with_reducible refine gate_dst (N := 9) rfl ?_); refine Kd.R_lit (Kd.int .u8) _ 5 ?hg (N := 9) ?hd (xs := ([] : List Int)) (inner := []) (ok := fun _ => True) (okp := fun _ => True) ?hr ?hp (fun _ hk => hk) trivial (Below.refl _ _) (Nat.le_refl _) (by simp) ?_; (case hd => rfl); (case hg => rfl); (case hr => first | (go_simp; done) | (go_simp; rfl)); (case hp => exact (Reps.none _ _)); intro v173 w33 ho34 hb hg_ hnew_; clear hg_ hnew_; (first | rw [← Ny172.out] at ho34 | (simp only [Int.reduceToNat] at ho34; rw [← Ny172.out] at ho34)); have HO174 := Aside0.mk (Kd.R_lower ho34 (below_size (bw_ HB))); replace HB := Aside0.mk (below_step (bw_ HB) hb); clear hb ho34))
 go_ret
 exact ⟨_, eR_, kr_ HO174, bw_ HB⟩
}
def laws_eqEntry.f (a0_0 : ByteArray) (a0_1 : Int) (a0_2 : ByteArray) (a0_3 : Bool) (a1_0 : ByteArray) (a1_1 : Int) (a1_2 : ByteArray) (a1_3 : Bool) : Option (Bool) := if a0_0.toList = a1_0.toList then (if a0_1 = a1_1 then (if a0_2.toList = a1_2.toList then (if (a0_3 != a1_3) = true then (some false) else (some true)) else (some false)) else (some false)) else (some false)
theorem laws_eqEntry.calls (a0_0 : ByteArray) (a0_1 : Int) (a0_2 : ByteArray) (a0_3 : Bool) (a1_0 : ByteArray) (a1_1 : Int) (a1_2 : ByteArray) (a1_3 : Bool) (r : Bool) (w : World) (h : laws_eqEntry.f a0_0 a0_1 a0_2 a0_3 a1_0 a1_1 a1_2 a1_3 = some r) :
 Calls Tryz.prog 54 #[.agg #[.string a0_0, .int .i64 a0_1, .string a0_2, .bool a0_3], .agg #[.string a1_0, .int .i64 a1_1, .string a1_2, .bool a1_3]] w fun e w' => e = .returned (.bool r) ∧ Below w.heap.size w w' := by
 have hu57 := Tryz.underlying57
 have HB := Aside0.mk (Below.refl w.heap.size w)
 have H : (if a0_0.toList = a1_0.toList then (if a0_1 = a1_1 then (if a0_2.toList = a1_2.toList then (if (a0_3 != a1_3) = true then (some false) else (some true)) else (some false)) else (some false)) else (some false)) = some r := h
 clear h
 by_cases c3 : a0_0.toList = a1_0.toList
 {
 rw [if_pos c3] at H
 have c3b0 : (a0_0.toList == a1_0.toList) = true := beq_iff_eq.mpr c3
 have c3b1 : (a0_0.toList != a1_0.toList) = false := bne_eq_false_iff_eq.mpr c3
 clear c3
 by_cases c4 : a0_1 = a1_1
 {
 rw [if_pos c4] at H
 have c4b0 : (a0_1 == a1_1) = true := beq_iff_eq.mpr c4
 have c4b1 : (a0_1 != a1_1) = false := bne_eq_false_iff_eq.mpr c4
 clear c4
 by_cases c5 : a0_2.toList = a1_2.toList
 {
 rw [if_pos c5] at H
 have c5b0 : (a0_2.toList == a1_2.toList) = true := beq_iff_eq.mpr c5
 have c5b1 : (a0_2.toList != a1_2.toList) = false := bne_eq_false_iff_eq.mpr c5
 clear c5
 by_cases c6 : (a0_3 != a1_3) = true
 {
 rw [if_pos c6] at H
 have c6b0 : (a0_3 != a1_3) = true := c6
 (try (have c6b1 : decide (a0_3 = a1_3) = false := by simpa using c6))
 (try (have c6b2 : (a0_3 == a1_3) = false := by simpa using c6))
 (try (have c6b3 : ¬ (a0_3 = a1_3) := by simpa using c6))
 clear c6
 obtain rfl := Option.some.inj H
 go_enter Tryz.func54, Tryz.ntmps54
 go_wp2_with (first | ((with_reducible refine gate_dst (N := 2) rfl ?_); refine bE_ 2 #[.string a0_0, .int .i64 a0_1, .string a0_2, .bool a0_3] 57 ?_; intro gb477 hg w7 hbox hb; have BK477 := Aside0.mk (hbox); have GW477 := Aside0.mk (ge_ hg (bw_ HB)); have GE477 := Aside0.mk (ge_ hg (bw_ HB)); replace HB := Aside0.mk (below_step (bw_ HB) hb); clear hb hbox hg) | ((with_reducible refine gate_dst (N := 3) rfl ?_); refine bE_ 3 #[.string a1_0, .int .i64 a1_1, .string a1_2, .bool a1_3] 57 ?_; intro gb478 hg w8 hbox hb; have BK478 := Aside0.mk (hbox); have GW478 := Aside0.mk (ge_ hg (bw1_ HB GE477)); have GE478 := Aside0.mk (ge_ hg (bw1_ HB GE477)); replace HB := Aside0.mk (below_step (bw1_ HB GE477) hb); have NB477_478 := Aside0.mk ((by rw [hg]; exact Nat.ne_of_lt (blk_lt (bk_ BK477)) : gb477 ≠ gb478)); have NB478_477 := Aside0.mk ((by rw [hg]; exact Nat.ne_of_gt (blk_lt (bk_ BK477)) : gb478 ≠ gb477)); replace BK477 := Aside0.mk (blk_below (bk_ BK477) hb); clear hb hbox hg; have hnb9 := NB477_478.out; have hnc9 := NB478_477.out; have hcz10_0 := cz_ BK477 0 (.string a0_0); have hcz10_1 := cz_ BK477 1 (.int .i64 a0_1); have hcz10_2 := cz_ BK477 2 (.string a0_2); have hcz10_3 := cz_ BK477 3 (.bool a0_3); have hfz10_0 := blk_frozen BK477.out 0; have hfz10_1 := blk_frozen BK477.out 1; have hfz10_2 := blk_frozen BK477.out 2; have hfz10_3 := blk_frozen BK477.out 3; have hcz11_0 := cz_ BK478 0 (.string a1_0); have hcz11_1 := cz_ BK478 1 (.int .i64 a1_1); have hcz11_2 := cz_ BK478 2 (.string a1_2); have hcz11_3 := cz_ BK478 3 (.bool a1_3); have hfz11_0 := blk_frozen BK478.out 0; have hfz11_1 := blk_frozen BK478.out 1; have hfz11_2 := blk_frozen BK478.out 2; have hfz11_3 := blk_frozen BK478.out 3))
 go_ret
 exact ⟨eR_, bw2_ HB GE477 GE478⟩}
 {
 rw [if_neg c6] at H
 have c6b0 : (a0_3 != a1_3) = false := by simpa using c6
 (try (have c6b1 : decide (a0_3 = a1_3) = true := by simpa using c6))
 (try (have c6b2 : (a0_3 == a1_3) = true := by simpa using c6))
 clear c6
 obtain rfl := Option.some.inj H
 go_enter Tryz.func54, Tryz.ntmps54
 go_wp2_with (first | ((with_reducible refine gate_dst (N := 2) rfl ?_); refine bE_ 2 #[.string a0_0, .int .i64 a0_1, .string a0_2, .bool a0_3] 57 ?_; intro gb477 hg w12 hbox hb; have BK477 := Aside0.mk (hbox); have GW477 := Aside0.mk (ge_ hg (bw_ HB)); have GE477 := Aside0.mk (ge_ hg (bw_ HB)); replace HB := Aside0.mk (below_step (bw_ HB) hb); clear hb hbox hg) | ((with_reducible refine gate_dst (N := 3) rfl ?_); refine bE_ 3 #[.string a1_0, .int .i64 a1_1, .string a1_2, .bool a1_3] 57 ?_; intro gb478 hg w13 hbox hb; have BK478 := Aside0.mk (hbox); have GW478 := Aside0.mk (ge_ hg (bw1_ HB GE477)); have GE478 := Aside0.mk (ge_ hg (bw1_ HB GE477)); replace HB := Aside0.mk (below_step (bw1_ HB GE477) hb); have NB477_478 := Aside0.mk ((by rw [hg]; exact Nat.ne_of_lt (blk_lt (bk_ BK477)) : gb477 ≠ gb478)); have NB478_477 := Aside0.mk ((by rw [hg]; exact Nat.ne_of_gt (blk_lt (bk_ BK477)) : gb478 ≠ gb477)); replace BK477 := Aside0.mk (blk_below (bk_ BK477) hb); clear hb hbox hg; have hnb14 := NB477_478.out; have hnc14 := NB478_477.out; have hcz15_0 := cz_ BK477 0 (.string a0_0); have hcz15_1 := cz_ BK477 1 (.int .i64 a0_1); have hcz15_2 := cz_ BK477 2 (.string a0_2); have hcz15_3 := cz_ BK477 3 (.bool a0_3); have hfz15_0 := blk_frozen BK477.out 0; have hfz15_1 := blk_frozen BK477.out 1; have hfz15_2 := blk_frozen BK477.out 2; have hfz15_3 := blk_frozen BK477.out 3; have hcz16_0 := cz_ BK478 0 (.string a1_0); have hcz16_1 := cz_ BK478 1 (.int .i64 a1_1); have hcz16_2 := cz_ BK478 2 (.string a1_2); have hcz16_3 := cz_ BK478 3 (.bool a1_3); have hfz16_0 := blk_frozen BK478.out 0; have hfz16_1 := blk_frozen BK478.out 1; have hfz16_2 := blk_frozen BK478.out 2; have hfz16_3 := blk_frozen BK478.out 3))
 go_ret
 exact ⟨eR_, bw2_ HB GE477 GE478⟩}}
 {
 rw [if_neg c5] at H
 have c5b0 : (a0_2.toList == a1_2.toList) = false := beq_eq_false_iff_ne.mpr c5
 have c5b1 : (a0_2.toList != a1_2.toList) = true := bne_iff_ne.mpr c5
 obtain rfl := Option.some.inj H
 go_enter Tryz.func54, Tryz.ntmps54
 go_wp2_with (first | ((with_reducible refine gate_dst (N := 2) rfl ?_); refine bE_ 2 #[.string a0_0, .int .i64 a0_1, .string a0_2, .bool a0_3] 57 ?_; intro gb477 hg w17 hbox hb; have BK477 := Aside0.mk (hbox); have GW477 := Aside0.mk (ge_ hg (bw_ HB)); have GE477 := Aside0.mk (ge_ hg (bw_ HB)); replace HB := Aside0.mk (below_step (bw_ HB) hb); clear hb hbox hg) | ((with_reducible refine gate_dst (N := 3) rfl ?_); refine bE_ 3 #[.string a1_0, .int .i64 a1_1, .string a1_2, .bool a1_3] 57 ?_; intro gb478 hg w18 hbox hb; have BK478 := Aside0.mk (hbox); have GW478 := Aside0.mk (ge_ hg (bw1_ HB GE477)); have GE478 := Aside0.mk (ge_ hg (bw1_ HB GE477)); replace HB := Aside0.mk (below_step (bw1_ HB GE477) hb); have NB477_478 := Aside0.mk ((by rw [hg]; exact Nat.ne_of_lt (blk_lt (bk_ BK477)) : gb477 ≠ gb478)); have NB478_477 := Aside0.mk ((by rw [hg]; exact Nat.ne_of_gt (blk_lt (bk_ BK477)) : gb478 ≠ gb477)); replace BK477 := Aside0.mk (blk_below (bk_ BK477) hb); clear hb hbox hg; have hnb19 := NB477_478.out; have hnc19 := NB478_477.out; have hcz20_0 := cz_ BK477 0 (.string a0_0); have hcz20_1 := cz_ BK477 1 (.int .i64 a0_1); have hcz20_2 := cz_ BK477 2 (.string a0_2); have hcz20_3 := cz_ BK477 3 (.bool a0_3); have hfz20_0 := blk_frozen BK477.out 0; have hfz20_1 := blk_frozen BK477.out 1; have hfz20_2 := blk_frozen BK477.out 2; have hfz20_3 := blk_frozen BK477.out 3; have hcz21_0 := cz_ BK478 0 (.string a1_0); have hcz21_1 := cz_ BK478 1 (.int .i64 a1_1); have hcz21_2 := cz_ BK478 2 (.string a1_2); have hcz21_3 := cz_ BK478 3 (.bool a1_3); have hfz21_0 := blk_frozen BK478.out 0; have hfz21_1 := blk_frozen BK478.out 1; have hfz21_2 := blk_frozen BK478.out 2; have hfz21_3 := blk_frozen BK478.out 3))
 go_ret
 exact ⟨eR_, bw2_ HB GE477 GE478⟩}}
 {
 rw [if_neg c4] at H
 have c4b0 : (a0_1 == a1_1) = false := beq_eq_false_iff_ne.mpr c4
 have c4b1 : (a0_1 != a1_1) = true := bne_iff_ne.mpr c4
 obtain rfl := Option.some.inj H
 go_enter Tryz.func54, Tryz.ntmps54
 go_wp2_with (first | ((with_reducible refine gate_dst (N := 2) rfl ?_); refine bE_ 2 #[.string a0_0, .int .i64 a0_1, .string a0_2, .bool a0_3] 57 ?_; intro gb477 hg w22 hbox hb; have BK477 := Aside0.mk (hbox); have GW477 := Aside0.mk (ge_ hg (bw_ HB)); have GE477 := Aside0.mk (ge_ hg (bw_ HB)); replace HB := Aside0.mk (below_step (bw_ HB) hb); clear hb hbox hg) | ((with_reducible refine gate_dst (N := 3) rfl ?_); refine bE_ 3 #[.string a1_0, .int .i64 a1_1, .string a1_2, .bool a1_3] 57 ?_; intro gb478 hg w23 hbox hb; have BK478 := Aside0.mk (hbox); have GW478 := Aside0.mk (ge_ hg (bw1_ HB GE477)); have GE478 := Aside0.mk (ge_ hg (bw1_ HB GE477)); replace HB := Aside0.mk (below_step (bw1_ HB GE477) hb); have NB477_478 := Aside0.mk ((by rw [hg]; exact Nat.ne_of_lt (blk_lt (bk_ BK477)) : gb477 ≠ gb478)); have NB478_477 := Aside0.mk ((by rw [hg]; exact Nat.ne_of_gt (blk_lt (bk_ BK477)) : gb478 ≠ gb477)); replace BK477 := Aside0.mk (blk_below (bk_ BK477) hb); clear hb hbox hg; have hnb24 := NB477_478.out; have hnc24 := NB478_477.out; have hcz25_0 := cz_ BK477 0 (.string a0_0); have hcz25_1 := cz_ BK477 1 (.int .i64 a0_1); have hcz25_2 := cz_ BK477 2 (.string a0_2); have hcz25_3 := cz_ BK477 3 (.bool a0_3); have hfz25_0 := blk_frozen BK477.out 0; have hfz25_1 := blk_frozen BK477.out 1; have hfz25_2 := blk_frozen BK477.out 2; have hfz25_3 := blk_frozen BK477.out 3; have hcz26_0 := cz_ BK478 0 (.string a1_0); have hcz26_1 := cz_ BK478 1 (.int .i64 a1_1); have hcz26_2 := cz_ BK478 2 (.string a1_2); have hcz26_3 := cz_ BK478 3 (.bool a1_3); have hfz26_0 := blk_frozen BK478.out 0; have hfz26_1 := blk_frozen BK478.out 1; have hfz26_2 := blk_frozen BK478.out 2; have hfz26_3 := blk_frozen BK478.out 3))
 go_ret
 exact ⟨eR_, bw2_ HB GE477 GE478⟩}}
 {
 rw [if_neg c3] at H
 have c3b0 : (a0_0.toList == a1_0.toList) = false := beq_eq_false_iff_ne.mpr c3
 have c3b1 : (a0_0.toList != a1_0.toList) = true := bne_iff_ne.mpr c3
 obtain rfl := Option.some.inj H
 go_enter Tryz.func54, Tryz.ntmps54
 go_wp2_with (first | ((with_reducible refine gate_dst (N := 2) rfl ?_); refine bE_ 2 #[.string a0_0, .int .i64 a0_1, .string a0_2, .bool a0_3] 57 ?_; intro gb477 hg w27 hbox hb; have BK477 := Aside0.mk (hbox); have GW477 := Aside0.mk (ge_ hg (bw_ HB)); have GE477 := Aside0.mk (ge_ hg (bw_ HB)); replace HB := Aside0.mk (below_step (bw_ HB) hb); clear hb hbox hg) | ((with_reducible refine gate_dst (N := 3) rfl ?_); refine bE_ 3 #[.string a1_0, .int .i64 a1_1, .string a1_2, .bool a1_3] 57 ?_; intro gb478 hg w28 hbox hb; have BK478 := Aside0.mk (hbox); have GW478 := Aside0.mk (ge_ hg (bw1_ HB GE477)); have GE478 := Aside0.mk (ge_ hg (bw1_ HB GE477)); replace HB := Aside0.mk (below_step (bw1_ HB GE477) hb); have NB477_478 := Aside0.mk ((by rw [hg]; exact Nat.ne_of_lt (blk_lt (bk_ BK477)) : gb477 ≠ gb478)); have NB478_477 := Aside0.mk ((by rw [hg]; exact Nat.ne_of_gt (blk_lt (bk_ BK477)) : gb478 ≠ gb477)); replace BK477 := Aside0.mk (blk_below (bk_ BK477) hb); clear hb hbox hg; have hnb29 := NB477_478.out; have hnc29 := NB478_477.out; have hcz30_0 := cz_ BK477 0 (.string a0_0); have hcz30_1 := cz_ BK477 1 (.int .i64 a0_1); have hcz30_2 := cz_ BK477 2 (.string a0_2); have hcz30_3 := cz_ BK477 3 (.bool a0_3); have hfz30_0 := blk_frozen BK477.out 0; have hfz30_1 := blk_frozen BK477.out 1; have hfz30_2 := blk_frozen BK477.out 2; have hfz30_3 := blk_frozen BK477.out 3; have hcz31_0 := cz_ BK478 0 (.string a1_0); have hcz31_1 := cz_ BK478 1 (.int .i64 a1_1); have hcz31_2 := cz_ BK478 2 (.string a1_2); have hcz31_3 := cz_ BK478 3 (.bool a1_3); have hfz31_0 := blk_frozen BK478.out 0; have hfz31_1 := blk_frozen BK478.out 1; have hfz31_2 := blk_frozen BK478.out 2; have hfz31_3 := blk_frozen BK478.out 3))
 go_ret
 exact ⟨eR_, bw2_ HB GE477 GE478⟩
}
def laws_eqEntryS.l0 : Nat → List (S57) → List (S57) → Int → Option (Bool)
 | 0, _, _, _ => none
 | k + 1, x0, x1, x5 => if x5 < (x0.length : Int) then (if 0 ≤ x5 then (if x5 < (x1.length : Int) then ((laws_eqEntry.f ((rd_T57 x0 x5).f0) ((rd_T57 x0 x5).f1) ((rd_T57 x0 x5).f2) ((rd_T57 x0 x5).f3) ((rd_T57 x1 x5).f0) ((rd_T57 x1 x5).f1) ((rd_T57 x1 x5).f2) ((rd_T57 x1 x5).f3)).bind fun t481 => (if t481 = true then (laws_eqEntryS.l0 k x0 x1 (wrap64 (x5 + 1))) else (some false))) else (none)) else (none)) else (some true)
def laws_eqEntryS.f (k : Nat) (l0 : List (S57)) (l1 : List (S57)) : Option (Bool) := if (l0.length : Int) = (l1.length : Int) then (laws_eqEntryS.l0 k l0 l1 0) else (some false)
def laws_eqEntryS.T6 : Bool × List (List Nat × List Nat) := (true, [([], []), ([], []), ([0, 1], [0, 1]), ([2], [2]), ([], []), ([], []), ([4, 5], [4, 5]), ([6], [6]), ([3, 7], [3, 7]), ([8], [8])])
def laws_eqEntryS.B6 : List Nat := [0, 0, 3, 7, 0, 0, 48, 112, 255, 511]
theorem laws_eqEntryS.tab6 : rtab .any (opsOf Tryz.f23 6) = laws_eqEntryS.T6 := by kernel_rfl
theorem laws_eqEntryS.bits6 : waitsOk laws_eqEntryS.T6.2 laws_eqEntryS.B6 = true := by kernel_rfl
theorem laws_eqEntryS.calls (k : Nat) (A0 : Option Addr) (c0 : Nat) (l0 : List (S57)) (A1 : Option Addr) (c1 : Nat) (l1 : List (S57)) (r : Bool) (w : World) (hr0 : Kd.C k57 w A0 l0.length l0) (hc0 : l0.length ≤ c0) (hr1 : Kd.C k57 w A1 l1.length l1) (hc1 : l1.length ≤ c1) (h : laws_eqEntryS.f k l0 l1 = some r) :
 Calls Tryz.prog 23 #[.slice A0 l0.length c0, .slice A1 l1.length c1] w fun e w' => e = .returned (.bool r) ∧ Below w.heap.size w w' := by
 have hu57 := Tryz.underlying57
 have HR0 := Aside0.mk hr0
 have HC0 := Aside0.mk hc0
 clear hr0 hc0
 have HR1 := Aside0.mk hr1
 have HC1 := Aside0.mk hc1
 clear hr1 hc1
 have HB := Aside0.mk (Below.refl w.heap.size w)
 have H : (if (l0.length : Int) = (l1.length : Int) then (laws_eqEntryS.l0 k l0 l1 0) else (some false)) = some r := h
 clear h
 by_cases c3 : (l0.length : Int) = (l1.length : Int)
 {
 rw [if_pos c3] at H
 have c3b0 : ((l0.length : Int) == (l1.length : Int)) = true := beq_iff_eq.mpr c3
 have c3b1 : ((l0.length : Int) != (l1.length : Int)) = false := bne_eq_false_iff_eq.mpr c3
 have c3b2 : (l0.length == l1.length) = true := by first | simpa using c3 | (simp at c3 ⊢; omega)
 clear c3
 have H' := Aside0.mk H
 clear H
 go_enter Tryz.func23, Tryz.ntmps23
 go_wp2
 go_loopg [5] k (fun kq v5 w' => ∃ (x5_1 : Int), v5 = .int .i64 x5_1 ∧ Aside0 (laws_eqEntryS.l0 kq l0 l1 x5_1 = some r) ∧ Aside0 (kq ≤ k) ∧ Aside0 (Below w.heap.size w w'))
 case atStart => exact ⟨(0), (by first | rfl | (simp; done) | (simp [*]; done)), H', ⟨Nat.le_refl _⟩, ⟨bw_ HB⟩⟩
 case round =>
  clear H'
  try clear c1
  try clear c2
  try clear p2
  try clear c3
  try clear c3b0
  try clear c3b1
  try clear c3b2
  obtain ⟨x5_1, rfl, HA, HK1, HB⟩ := hrel
  cases gk with
  | zero => exact absurd HA.out (by simp [laws_eqEntryS.l0])
  | succ k1 =>
       have H := HA.out
       clear HA
       simp only [laws_eqEntryS.l0] at H
       by_cases c4 : x5_1 < (l0.length : Int)
       {
       rw [if_pos c4] at H
       have c4b0 := decide_eq_true c4
       clear c4
       by_cases c5 : 0 ≤ x5_1
       {
       rw [if_pos c5] at H
       have c5b0 := decide_eq_true c5
       clear c5
       by_cases c6 : x5_1 < (l1.length : Int)
       {
       rw [if_pos c6] at H
       have c6b0 := decide_eq_true c6
       clear c6
       replace H := Option.bind_eq_some_iff.mp H
       obtain ⟨t481, A70, H⟩ := H
       have A7 := Aside0.mk A70
       clear A70
       by_cases c8 : t481 = true
       {
       subst c8
       rw [if_pos rfl] at H
       have H' := Aside0.mk H
       clear H
       try go_wp2
       replace HB := Aside0.mk (below_drew1 HB.out)
       have p479 : 0 ≤ (x5_1 : Int) := dA_
       have q479 : x5_1 < (l0.length : Int) := dA_
       obtain ⟨ad479, e479, hx479_0, hx479_1, hx479_2, hx479_3⟩ := at_T57 HR0.out x5_1 p479 q479
       have hw479_3 := hx479_3
       have hw479_2 := hx479_2
       have hw479_1 := hx479_1
       have hw479_0 := hx479_0
       cases e479
       replace hx479_0 := hX_ HB hx479_0
       replace hx479_1 := hX_ HB hx479_1
       replace hx479_2 := hX_ HB hx479_2
       replace hx479_3 := hX_ HB hx479_3
       replace p479 := eq_true p479
       replace q479 := eq_true q479
       have p480 : 0 ≤ (x5_1 : Int) := dA_
       have q480 : x5_1 < (l1.length : Int) := dA_
       obtain ⟨ad480, e480, hx480_0, hx480_1, hx480_2, hx480_3⟩ := at_T57 HR1.out x5_1 p480 q480
       have hw480_3 := hx480_3
       have hw480_2 := hx480_2
       have hw480_1 := hx480_1
       have hw480_0 := hx480_0
       cases e480
       replace hx480_0 := hX_ HB hx480_0
       replace hx480_1 := hX_ HB hx480_1
       replace hx480_2 := hX_ HB hx480_2
       replace hx480_3 := hX_ HB hx480_3
       replace p480 := eq_true p480
       replace q480 := eq_true q480
       refine start_ (n := 10) (S := fun w' => w'.cell? (ad479.add ((x5_1).toNat * 4)) = some (.string ((rd_T57 l0 x5_1).f0)) ∧ w'.cell? ⟨(ad479.add ((x5_1).toNat * 4)).block, (ad479.add ((x5_1).toNat * 4)).off + 1, none⟩ = some (.int .i64 ((rd_T57 l0 x5_1).f1)) ∧ w'.cell? ⟨(ad479.add ((x5_1).toNat * 4)).block, (ad479.add ((x5_1).toNat * 4)).off + 2, none⟩ = some (.string ((rd_T57 l0 x5_1).f2)) ∧ w'.cell? ⟨(ad479.add ((x5_1).toNat * 4)).block, (ad479.add ((x5_1).toNat * 4)).off + 3, none⟩ = some (.bool ((rd_T57 l0 x5_1).f3)) ∧ w'.cell? (ad480.add ((x5_1).toNat * 4)) = some (.string ((rd_T57 l1 x5_1).f0)) ∧ w'.cell? ⟨(ad480.add ((x5_1).toNat * 4)).block, (ad480.add ((x5_1).toNat * 4)).off + 1, none⟩ = some (.int .i64 ((rd_T57 l1 x5_1).f1)) ∧ w'.cell? ⟨(ad480.add ((x5_1).toNat * 4)).block, (ad480.add ((x5_1).toNat * 4)).off + 2, none⟩ = some (.string ((rd_T57 l1 x5_1).f2)) ∧ w'.cell? ⟨(ad480.add ((x5_1).toNat * 4)).block, (ad480.add ((x5_1).toNat * 4)).off + 3, none⟩ = some (.bool ((rd_T57 l1 x5_1).f3))) (ds := []) (bs_ 10 0) (by kernel_rfl) rfl (by kernel_rfl) ⟨((HB.out.cell (World.block_lt_of_cell? w _ hw479_0)).trans hw479_0), ((HB.out.cell (World.block_lt_of_cell? w _ hw479_1)).trans hw479_1), ((HB.out.cell (World.block_lt_of_cell? w _ hw479_2)).trans hw479_2), ((HB.out.cell (World.block_lt_of_cell? w _ hw479_3)).trans hw479_3), ((HB.out.cell (World.block_lt_of_cell? w _ hw480_0)).trans hw480_0), ((HB.out.cell (World.block_lt_of_cell? w _ hw480_1)).trans hw480_1), ((HB.out.cell (World.block_lt_of_cell? w _ hw480_2)).trans hw480_2), ((HB.out.cell (World.block_lt_of_cell? w _ hw480_3)).trans hw480_3)⟩ (fun hHeld => ?_); refine with_tabW laws_eqEntryS.tab6 laws_eqEntryS.bits6 (fun HT_ HW_ => ?_)
       generalize wr.drew = w9 at HB hx479_0 hx479_1 hx479_2 hx479_3 hx480_0 hx480_1 hx480_2 hx480_3 hHeld ⊢
       refine pS_ 0 ?_
       refine pS_ 1 ?_
       refine pS_ 2 ?_
       refine pS_ 4 ?_
       refine pS_ 5 ?_
       refine pS_ 6 ?_
       refine t8_ 3 hHeld ?_
       refine t8_ 7 hHeld ?_
       refine oS_ 8 (fun K hK => ?_)
       refine gS_ Tryz.func54 #[.agg #[.string ((rd_T57 l0 x5_1).f0), .int .i64 ((rd_T57 l0 x5_1).f1), .string ((rd_T57 l0 x5_1).f2), .bool ((rd_T57 l0 x5_1).f3)], .agg #[.string ((rd_T57 l1 x5_1).f0), .int .i64 ((rd_T57 l1 x5_1).f1), .string ((rd_T57 l1 x5_1).f2), .bool ((rd_T57 l1 x5_1).f3)]] ?_
       with_reducible refine (laws_eqEntry.calls ((rd_T57 l0 x5_1).f0) ((rd_T57 l0 x5_1).f1) ((rd_T57 l0 x5_1).f2) ((rd_T57 l0 x5_1).f3) ((rd_T57 l1 x5_1).f0) ((rd_T57 l1 x5_1).f1) ((rd_T57 l1 x5_1).f2) ((rd_T57 l1 x5_1).f3) true _ A7.out).mono ?_
       rintro e w10 ⟨rfl, hb⟩
       refine ⟨_, rfl, ?_⟩
       replace HB := Aside0.mk (below_step (bw_ HB) hb)
       (try clear hb)
       (try clear hb2)
       (try clear hk)
       (try clear hi)
       refine hK.out _ _ ⟨((HB.out.cell (World.block_lt_of_cell? w _ hw479_0)).trans hw479_0), ((HB.out.cell (World.block_lt_of_cell? w _ hw479_1)).trans hw479_1), ((HB.out.cell (World.block_lt_of_cell? w _ hw479_2)).trans hw479_2), ((HB.out.cell (World.block_lt_of_cell? w _ hw479_3)).trans hw479_3), ((HB.out.cell (World.block_lt_of_cell? w _ hw480_0)).trans hw480_0), ((HB.out.cell (World.block_lt_of_cell? w _ hw480_1)).trans hw480_1), ((HB.out.cell (World.block_lt_of_cell? w _ hw480_2)).trans hw480_2), ((HB.out.cell (World.block_lt_of_cell? w _ hw480_3)).trans hw480_3)⟩ (fun hHeld => ?_)
       clear hK K
       refine nS_ 25 ?_
       refine pS_ 9 ?_
       refine done_ (done_of HT_.out (by kernel_rfl)) ?_
       try go_wp2
       go_roundg k1
       case measure => have := HK1.out; omega
       case rel => exact ⟨(wrap64 (x5_1 + 1)), (by first | rfl | (simp; done) | (simp [*]; done)), H', ⟨by have := HK1.out; omega⟩, ⟨bw_ HB⟩⟩}
       {
       replace c8 := Bool.eq_false_iff.mpr c8
       subst c8
       rw [if_neg (show ¬ (false = true) by decide)] at H
       obtain rfl := Option.some.inj H
       try go_wp2
       replace HB := Aside0.mk (below_drew1 HB.out)
       have p479 : 0 ≤ (x5_1 : Int) := dA_
       have q479 : x5_1 < (l0.length : Int) := dA_
       obtain ⟨ad479, e479, hx479_0, hx479_1, hx479_2, hx479_3⟩ := at_T57 HR0.out x5_1 p479 q479
       have hw479_3 := hx479_3
       have hw479_2 := hx479_2
       have hw479_1 := hx479_1
       have hw479_0 := hx479_0
       cases e479
       replace hx479_0 := hX_ HB hx479_0
       replace hx479_1 := hX_ HB hx479_1
       replace hx479_2 := hX_ HB hx479_2
       replace hx479_3 := hX_ HB hx479_3
       replace p479 := eq_true p479
       replace q479 := eq_true q479
       have p480 : 0 ≤ (x5_1 : Int) := dA_
       have q480 : x5_1 < (l1.length : Int) := dA_
       obtain ⟨ad480, e480, hx480_0, hx480_1, hx480_2, hx480_3⟩ := at_T57 HR1.out x5_1 p480 q480
       have hw480_3 := hx480_3
       have hw480_2 := hx480_2
       have hw480_1 := hx480_1
       have hw480_0 := hx480_0
       cases e480
       replace hx480_0 := hX_ HB hx480_0
       replace hx480_1 := hX_ HB hx480_1
       replace hx480_2 := hX_ HB hx480_2
       replace hx480_3 := hX_ HB hx480_3
       replace p480 := eq_true p480
       replace q480 := eq_true q480
       refine start_ (n := 10) (S := fun w' => w'.cell? (ad479.add ((x5_1).toNat * 4)) = some (.string ((rd_T57 l0 x5_1).f0)) ∧ w'.cell? ⟨(ad479.add ((x5_1).toNat * 4)).block, (ad479.add ((x5_1).toNat * 4)).off + 1, none⟩ = some (.int .i64 ((rd_T57 l0 x5_1).f1)) ∧ w'.cell? ⟨(ad479.add ((x5_1).toNat * 4)).block, (ad479.add ((x5_1).toNat * 4)).off + 2, none⟩ = some (.string ((rd_T57 l0 x5_1).f2)) ∧ w'.cell? ⟨(ad479.add ((x5_1).toNat * 4)).block, (ad479.add ((x5_1).toNat * 4)).off + 3, none⟩ = some (.bool ((rd_T57 l0 x5_1).f3)) ∧ w'.cell? (ad480.add ((x5_1).toNat * 4)) = some (.string ((rd_T57 l1 x5_1).f0)) ∧ w'.cell? ⟨(ad480.add ((x5_1).toNat * 4)).block, (ad480.add ((x5_1).toNat * 4)).off + 1, none⟩ = some (.int .i64 ((rd_T57 l1 x5_1).f1)) ∧ w'.cell? ⟨(ad480.add ((x5_1).toNat * 4)).block, (ad480.add ((x5_1).toNat * 4)).off + 2, none⟩ = some (.string ((rd_T57 l1 x5_1).f2)) ∧ w'.cell? ⟨(ad480.add ((x5_1).toNat * 4)).block, (ad480.add ((x5_1).toNat * 4)).off + 3, none⟩ = some (.bool ((rd_T57 l1 x5_1).f3))) (ds := []) (bs_ 10 0) (by kernel_rfl) rfl (by kernel_rfl) ⟨((HB.out.cell (World.block_lt_of_cell? w _ hw479_0)).trans hw479_0), ((HB.out.cell (World.block_lt_of_cell? w _ hw479_1)).trans hw479_1), ((HB.out.cell (World.block_lt_of_cell? w _ hw479_2)).trans hw479_2), ((HB.out.cell (World.block_lt_of_cell? w _ hw479_3)).trans hw479_3), ((HB.out.cell (World.block_lt_of_cell? w _ hw480_0)).trans hw480_0), ((HB.out.cell (World.block_lt_of_cell? w _ hw480_1)).trans hw480_1), ((HB.out.cell (World.block_lt_of_cell? w _ hw480_2)).trans hw480_2), ((HB.out.cell (World.block_lt_of_cell? w _ hw480_3)).trans hw480_3)⟩ (fun hHeld => ?_); refine with_tabW laws_eqEntryS.tab6 laws_eqEntryS.bits6 (fun HT_ HW_ => ?_)
       generalize wr.drew = w11 at HB hx479_0 hx479_1 hx479_2 hx479_3 hx480_0 hx480_1 hx480_2 hx480_3 hHeld ⊢
       refine pS_ 0 ?_
       refine pS_ 1 ?_
       refine pS_ 2 ?_
       refine pS_ 4 ?_
       refine pS_ 5 ?_
       refine pS_ 6 ?_
       refine t8_ 3 hHeld ?_
       refine t8_ 7 hHeld ?_
       refine oS_ 8 (fun K hK => ?_)
       refine gS_ Tryz.func54 #[.agg #[.string ((rd_T57 l0 x5_1).f0), .int .i64 ((rd_T57 l0 x5_1).f1), .string ((rd_T57 l0 x5_1).f2), .bool ((rd_T57 l0 x5_1).f3)], .agg #[.string ((rd_T57 l1 x5_1).f0), .int .i64 ((rd_T57 l1 x5_1).f1), .string ((rd_T57 l1 x5_1).f2), .bool ((rd_T57 l1 x5_1).f3)]] ?_
       with_reducible refine (laws_eqEntry.calls ((rd_T57 l0 x5_1).f0) ((rd_T57 l0 x5_1).f1) ((rd_T57 l0 x5_1).f2) ((rd_T57 l0 x5_1).f3) ((rd_T57 l1 x5_1).f0) ((rd_T57 l1 x5_1).f1) ((rd_T57 l1 x5_1).f2) ((rd_T57 l1 x5_1).f3) false _ A7.out).mono ?_
       rintro e w12 ⟨rfl, hb⟩
       refine ⟨_, rfl, ?_⟩
       replace HB := Aside0.mk (below_step (bw_ HB) hb)
       (try clear hb)
       (try clear hb2)
       (try clear hk)
       (try clear hi)
       refine hK.out _ _ ⟨((HB.out.cell (World.block_lt_of_cell? w _ hw479_0)).trans hw479_0), ((HB.out.cell (World.block_lt_of_cell? w _ hw479_1)).trans hw479_1), ((HB.out.cell (World.block_lt_of_cell? w _ hw479_2)).trans hw479_2), ((HB.out.cell (World.block_lt_of_cell? w _ hw479_3)).trans hw479_3), ((HB.out.cell (World.block_lt_of_cell? w _ hw480_0)).trans hw480_0), ((HB.out.cell (World.block_lt_of_cell? w _ hw480_1)).trans hw480_1), ((HB.out.cell (World.block_lt_of_cell? w _ hw480_2)).trans hw480_2), ((HB.out.cell (World.block_lt_of_cell? w _ hw480_3)).trans hw480_3)⟩ (fun hHeld => ?_)
       clear hK K
       refine nS_ 25 ?_
       refine pS_ 9 ?_
       refine done_ (done_of HT_.out (by kernel_rfl)) ?_
       try go_wp2
       go_ret
       exact ⟨eR_, bw_ HB⟩}}
       {
       rw [if_neg c6] at H
       exact absurd H (by simp)}}
       {
       rw [if_neg c5] at H
       exact absurd H (by simp)}}
       {
       rw [if_neg c4] at H
       have c4b0 := decide_eq_false c4
       clear c4
       obtain rfl := Option.some.inj H
       go_wp2
       go_ret
       exact ⟨eR_, bw_ HB⟩}}
 {
 rw [if_neg c3] at H
 have c3b0 : ((l0.length : Int) == (l1.length : Int)) = false := beq_eq_false_iff_ne.mpr c3
 have c3b1 : ((l0.length : Int) != (l1.length : Int)) = true := bne_iff_ne.mpr c3
 have c3b2 : (l0.length == l1.length) = false := by first | simpa using c3 | (simp at c3 ⊢; omega)
 obtain rfl := Option.some.inj H
 go_enter Tryz.func23, Tryz.ntmps23
 go_wp2
 go_ret
 exact ⟨eR_, bw_ HB⟩
}
def laws_toEntry.f (a0_0 : ByteArray) (a0_1 : Int) (a0_2 : ByteArray) (a0_3 : Bool) : Option (ByteArray × Int × ByteArray × Bool) := some (a0_0, a0_1, a0_2, a0_3)
theorem laws_toEntry.calls (a0_0 : ByteArray) (a0_1 : Int) (a0_2 : ByteArray) (a0_3 : Bool) (r1 : ByteArray) (r2 : Int) (r3 : ByteArray) (r4 : Bool) (w : World) (h : laws_toEntry.f a0_0 a0_1 a0_2 a0_3 = some (r1, r2, r3, r4)) :
 Calls Tryz.prog 47 #[.agg #[.string a0_0, .int .i64 a0_1, .string a0_2, .bool a0_3]] w fun e w' => e = .returned (.agg #[.string r1, .int .i64 r2, .string r3, .bool r4]) ∧ Below w.heap.size w w' := by
 have hu70 := Tryz.underlying70
 have hu57 := Tryz.underlying57
 have HB := Aside0.mk (Below.refl w.heap.size w)
 have H : (some (a0_0, a0_1, a0_2, a0_3)) = some (r1, r2, r3, r4) := h
 clear h
 simp only [Option.some.injEq, Prod.mk.injEq] at H
 obtain ⟨rfl, rfl, rfl, rfl⟩ := H
 go_enter Tryz.func47, Tryz.ntmps47
 go_wp2_with (first | ((with_reducible refine gate_dst (N := 1) rfl ?_); refine bE_ 1 #[.string a0_0, .int .i64 a0_1, .string a0_2, .bool a0_3] 70 ?_; intro gb302 hg w2 hbox hb; have BK302 := Aside0.mk (hbox); have GW302 := Aside0.mk (ge_ hg (bw_ HB)); have GE302 := Aside0.mk (ge_ hg (bw_ HB)); replace HB := Aside0.mk (below_step (bw_ HB) hb); clear hb hbox hg) | ((with_reducible refine gate_dst (N := 2) rfl ?_); refine bE_ 2 #[.string (⟨#[]⟩ : ByteArray), .int .i64 0, .string (⟨#[]⟩ : ByteArray), .bool false] 57 ?_; intro gb303 hg w3 hbox hb; have BK303 := Aside0.mk (hbox); have GW303 := Aside0.mk (ge_ hg (bw1_ HB GE302)); have GE303 := Aside0.mk (ge_ hg (bw1_ HB GE302)); replace HB := Aside0.mk (below_step (bw1_ HB GE302) hb); have NB302_303 := Aside0.mk ((by rw [hg]; exact Nat.ne_of_lt (blk_lt (bk_ BK302)) : gb302 ≠ gb303)); have NB303_302 := Aside0.mk ((by rw [hg]; exact Nat.ne_of_gt (blk_lt (bk_ BK302)) : gb303 ≠ gb302)); replace BK302 := Aside0.mk (blk_below (bk_ BK302) hb); clear hb hbox hg) | ((with_reducible refine gate_dst (N := 3) rfl ?_); refine bE_ 3 #[.string (⟨#[]⟩ : ByteArray), .int .i64 0, .string (⟨#[]⟩ : ByteArray), .bool false] 57 ?_; intro gb304 hg w4 hbox hb; have BK304 := Aside0.mk (hbox); have GW304 := Aside0.mk (ge_ hg (bw2_ HB GE302 GE303)); have GE304 := Aside0.mk (ge_ hg (bw2_ HB GE302 GE303)); replace HB := Aside0.mk (below_step (bw2_ HB GE302 GE303) hb); have NB302_304 := Aside0.mk ((by rw [hg]; exact Nat.ne_of_lt (blk_lt (bk_ BK302)) : gb302 ≠ gb304)); have NB304_302 := Aside0.mk ((by rw [hg]; exact Nat.ne_of_gt (blk_lt (bk_ BK302)) : gb304 ≠ gb302)); replace BK302 := Aside0.mk (blk_below (bk_ BK302) hb); have NB303_304 := Aside0.mk ((by rw [hg]; exact Nat.ne_of_lt (blk_lt (bk_ BK303)) : gb303 ≠ gb304)); have NB304_303 := Aside0.mk ((by rw [hg]; exact Nat.ne_of_gt (blk_lt (bk_ BK303)) : gb304 ≠ gb303)); replace BK303 := Aside0.mk (blk_below (bk_ BK303) hb); clear hb hbox hg; have hnb5 := NB302_303.out; have hnc5 := NB303_302.out; have hnb6 := NB302_304.out; have hnc6 := NB304_302.out; have hcz7_0 := cz_ BK302 0 (.string a0_0); have hcz7_1 := cz_ BK302 1 (.int .i64 a0_1); have hcz7_2 := cz_ BK302 2 (.string a0_2); have hcz7_3 := cz_ BK302 3 (.bool a0_3); have hfz7_0 := blk_frozen BK302.out 0; have hfz7_1 := blk_frozen BK302.out 1; have hfz7_2 := blk_frozen BK302.out 2; have hfz7_3 := blk_frozen BK302.out 3; have hnb8 := NB304_303.out; have hnc8 := NB303_304.out; have hcz9_0 := cz_ BK304 0 (.string (⟨#[]⟩ : ByteArray)); have hcz9_1 := cz_ BK304 1 (.int .i64 0); have hcz9_2 := cz_ BK304 2 (.string (⟨#[]⟩ : ByteArray)); have hcz9_3 := cz_ BK304 3 (.bool false); have hfz9_0 := blk_frozen BK304.out 0; have hfz9_1 := blk_frozen BK304.out 1; have hfz9_2 := blk_frozen BK304.out 2; have hfz9_3 := blk_frozen BK304.out 3; have hcz10_0 := cz_ BK303 0 (.string (⟨#[]⟩ : ByteArray)); have hcz10_1 := cz_ BK303 1 (.int .i64 0); have hcz10_2 := cz_ BK303 2 (.string (⟨#[]⟩ : ByteArray)); have hcz10_3 := cz_ BK303 3 (.bool false); have hfz10_0 := blk_frozen BK303.out 0; have hfz10_1 := blk_frozen BK303.out 1; have hfz10_2 := blk_frozen BK303.out 2; have hfz10_3 := blk_frozen BK303.out 3))
 refine bodyPost_ret (results_cell_row rfl _ _ gb303 57 #[.string a0_0, .int .i64 a0_1, .string a0_2, .bool a0_3] (0, 0) _ rfl (by (with_reducible repeat (first | refine blk_drewN ?_ _ | refine blk_drew ?_ | refine blk_alloc ?_ _)); refine blk_put (cs := #[.string a0_0, .int .i64 a0_1, .string a0_2, .bool false]) ?_ 3 _ rfl; (with_reducible repeat (first | refine blk_drewN ?_ _ | refine blk_drew ?_ | refine blk_alloc ?_ _)); refine blk_put (cs := #[.string a0_0, .int .i64 a0_1, .string (⟨#[]⟩ : ByteArray), .bool false]) ?_ 2 _ rfl; (with_reducible repeat (first | refine blk_drewN ?_ _ | refine blk_drew ?_ | refine blk_alloc ?_ _)); refine blk_put (cs := #[.string a0_0, .int .i64 0, .string (⟨#[]⟩ : ByteArray), .bool false]) ?_ 1 _ rfl; (with_reducible repeat (first | refine blk_drewN ?_ _ | refine blk_drew ?_ | refine blk_alloc ?_ _)); refine blk_put (cs := #[.string (⟨#[]⟩ : ByteArray), .int .i64 0, .string (⟨#[]⟩ : ByteArray), .bool false]) ?_ 0 _ rfl; (with_reducible repeat (first | refine blk_drewN ?_ _ | refine blk_drew ?_ | refine blk_alloc ?_ _)); refine blk_far ?_ NB303_304.out _; (with_reducible repeat (first | refine blk_drewN ?_ _ | refine blk_drew ?_ | refine blk_alloc ?_ _)); refine blk_far ?_ NB303_304.out _; (with_reducible repeat (first | refine blk_drewN ?_ _ | refine blk_drew ?_ | refine blk_alloc ?_ _)); refine blk_far ?_ NB303_304.out _; (with_reducible repeat (first | refine blk_drewN ?_ _ | refine blk_drew ?_ | refine blk_alloc ?_ _)); refine blk_far ?_ NB303_304.out _; (with_reducible repeat (first | refine blk_drewN ?_ _ | refine blk_drew ?_ | refine blk_alloc ?_ _)); exact BK303.out) Tryz.underlying57 rfl (by kernel_rfl)) rfl ?_
 exact ⟨eR_, by repeat (first | (with_reducible first | exact HB.out | apply below_alloc | apply pw_below_drewN | apply below_drew1 | refine below_set ?_ GE302.out | refine below_set ?_ GE303.out | refine below_set ?_ GE304.out) | exact HB.out)⟩
def laws_toEntryS.l0 : Nat → List (S70) → List (S57) → Int → Option ((List (S57)))
 | 0, _, _, _ => none
 | k + 1, x0, x3, x4 => if x4 < (x0.length : Int) then (if 0 ≤ x4 then ((laws_toEntry.f ((rd_T70 x0 x4).f0) ((rd_T70 x0 x4).f1) ((rd_T70 x0 x4).f2) ((rd_T70 x0 x4).f3)).bind fun bt309 => (if x4 < (x3.length : Int) then (laws_toEntryS.l0 k x0 (x3.set (x4 : Int).toNat (⟨bt309.1, bt309.2.1, bt309.2.2.1, bt309.2.2.2⟩ : S57)) (wrap64 (x4 + 1))) else (none))) else (none)) else (some x3)
def laws_toEntryS.f (k : Nat) (l0 : List (S70)) : Option ((List (S57))) := if 0 ≤ (l0.length : Int) then (if ((l0.length : Int) : Int).toNat ≤ 5864062014805 then (laws_toEntryS.l0 k l0 (List.replicate ((l0.length : Int) : Int).toNat z57) 0) else (none)) else (none)
theorem laws_toEntryS.calls (k : Nat) (A0 : Option Addr) (c0 : Nat) (l0 : List (S70)) (r : List (S57)) (w : World) (hr0 : Kd.C k70 w A0 l0.length l0) (hc0 : l0.length ≤ c0) (h : laws_toEntryS.f k l0 = some r) :
 Calls Tryz.prog 21 #[.slice A0 l0.length c0] w fun e w' => ∃ v0_ : Value, e = .returned (v0_) ∧ Kd.R k57 57 w' w.heap.size (fun _ => True) v0_ r ∧ Below w.heap.size w w' := by
 have hu70 := Tryz.underlying70
 have hu57 := Tryz.underlying57
 have HR0 := Aside0.mk hr0
 have HC0 := Aside0.mk hc0
 clear hr0 hc0
 have HB := Aside0.mk (Below.refl w.heap.size w)
 have H : (if 0 ≤ (l0.length : Int) then (if ((l0.length : Int) : Int).toNat ≤ 5864062014805 then (laws_toEntryS.l0 k l0 (List.replicate ((l0.length : Int) : Int).toNat z57) 0) else (none)) else (none)) = some r := h
 clear h
 by_cases c2 : 0 ≤ (l0.length : Int)
 {
 rw [if_pos c2] at H
 have c2b0 := eq_true c2
 have c2b1 := decide_eq_true c2
 clear c2
 by_cases c3 : ((l0.length : Int) : Int).toNat ≤ 5864062014805
 {
 rw [if_pos c3] at H
 have c3b0 := eq_true c3
 have c3b1 := decide_eq_true c3
 clear c3
 obtain ⟨y305, hy305⟩ : ∃ y_ : List (S57), y_ = (List.replicate ((l0.length : Int) : Int).toNat z57) := ⟨_, rfl⟩
 replace H : (laws_toEntryS.l0 k l0 y305 0) = some r := rH_ hy305 H
 have Ny305 := Aside0.mk hy305
 clear hy305
 have H' := Aside0.mk H
 clear H
 go_enter Tryz.func21, Tryz.ntmps21
 go_wp2_with (first | ((with_reducible refine gate_dst (N := 7) rfl ?_); refine Kd.R_make k57 _ 57 rfl (N := 7) rfl 39 _ _ rfl (l0.length : Int) rfl rfl Tryz.underlying39 (.agg #[(.string ⟨#[]⟩), (.int .i64 0), (.string ⟨#[]⟩), (.bool false)]) 48 info57 rfl (by decide) (by omega) z57 (ok := fun _ => True) (okp := fun _ => True) (k57_mkM _ _ _ z57 ) (fun _ hk => hk) trivial (dA_) (Nat.le_trans (Nat.mul_le_mul_right _ (dA_ : (l0.length : Int).toNat ≤ 5864062014805)) (by omega)) (Below.refl _ _) (Nat.le_refl _) ?_; intro v306 w4 ho5 hb hg_ hnew_; clear hg_ hnew_; (first | rw [← Ny305.out] at ho5 | (simp only [Int.reduceToNat] at ho5; rw [← Ny305.out] at ho5)); have HO307 := Aside0.mk (Kd.R_lower ho5 (below_size (bw_ HB))); replace HB := Aside0.mk (below_step (bw_ HB) hb); clear hb ho5))
 go_loopg [4] k (fun kq v4 w' => ∃ (x3_1 : List (S57)) (x4_1 : Int), v4 = .int .i64 x4_1 ∧ Aside0 (laws_toEntryS.l0 kq l0 x3_1 x4_1 = some r) ∧ Aside0 (kq ≤ k) ∧ Aside0 (Kd.R k57 57 w' w.heap.size (fun _ => True) v306 x3_1) ∧ Aside0 (Below w.heap.size w w'))
 case atStart => exact ⟨(y305), (0), (by first | rfl | (simp; done) | (simp [*]; done)), H', ⟨Nat.le_refl _⟩, ⟨kr_ HO307⟩, ⟨bw_ HB⟩⟩
 case round =>
  clear H'
  try clear c2
  try clear c2b0
  try clear c2b1
  try clear p2
  try clear c3
  try clear c3b0
  try clear c3b1
  obtain ⟨x3_1, x4_1, rfl, HA, HK1, HO_3, HB⟩ := hrel
  cases gk with
  | zero => exact absurd HA.out (by simp [laws_toEntryS.l0])
  | succ k1 =>
       have H := HA.out
       clear HA
       simp only [laws_toEntryS.l0] at H
       by_cases c6 : x4_1 < (l0.length : Int)
       {
       rw [if_pos c6] at H
       have c6b0 := decide_eq_true c6
       clear c6
       by_cases c7 : 0 ≤ x4_1
       {
       rw [if_pos c7] at H
       have c7b0 := decide_eq_true c7
       clear c7
       replace H := Option.bind_eq_some_iff.mp H
       obtain ⟨⟨t309, t310, t311, t312⟩, A80, H⟩ := H
       have A8 := Aside0.mk A80
       clear A80
       by_cases c9 : x4_1 < (x3_1.length : Int)
       {
       rw [if_pos c9] at H
       have c9b0 := decide_eq_true c9
       clear c9
       obtain ⟨y313, hy313⟩ : ∃ y_ : List (S57), y_ = (x3_1.set (x4_1 : Int).toNat (⟨t309, t310, t311, t312⟩ : S57)) := ⟨_, rfl⟩
       replace H : (laws_toEntryS.l0 k1 l0 y313 (wrap64 (x4_1 + 1))) = some r := rH_ hy313 H
       have Ny313 := Aside0.mk hy313
       clear hy313
       have H' := Aside0.mk H
       clear H
       have p308 : 0 ≤ (x4_1 : Int) := dA_
       have q308 : x4_1 < (l0.length : Int) := dA_
       obtain ⟨ad308, e308, hx308_0, hx308_1, hx308_2, hx308_3⟩ := at_T70 HR0.out x4_1 p308 q308
       cases e308
       replace hx308_0 := hX_ HB hx308_0
       replace hx308_1 := hX_ HB hx308_1
       replace hx308_2 := hX_ HB hx308_2
       replace hx308_3 := hX_ HB hx308_3
       replace p308 := eq_true p308
       replace q308 := eq_true q308
       go_wp2_with (first | ((with_reducible refine gate_callee (f := 47) rfl ?_); refine gL_ (some 20) Tryz.func47 #[.agg #[.string ((rd_T70 l0 x4_1).f0), .int .i64 ((rd_T70 l0 x4_1).f1), .string ((rd_T70 l0 x4_1).f2), .bool ((rd_T70 l0 x4_1).f3)]] ?_; (with_reducible refine (laws_toEntry.calls ((rd_T70 l0 x4_1).f0) ((rd_T70 l0 x4_1).f1) ((rd_T70 l0 x4_1).f2) ((rd_T70 l0 x4_1).f3) t309 t310 t311 t312 _ A8.out).mono ?_); rintro e w11 ⟨rfl, hb⟩; refine ⟨_, rfl, ?_⟩; replace HO_3 := Aside0.mk (Kd.R_below (kr_ HO_3) hb); replace HB := Aside0.mk (below_step (bw_ HB) hb); clear hb; have p10 : 0 ≤ (x4_1 : Int) := dA_; have q10 : (x4_1 : Int) < ((x3_1.length : Int) : Int) := dA_; obtain ⟨go10, co10, eo10, gb10, gl10, cl10, HG10⟩ := Kd.R_form HO_3.out (by omega); (first | cases eo10 | (injection eo10 with ea_ en_ ec_; (first | subst ea_ | (injection ea_ with ea_; subst ea_)); subst ec_; clear en_)); have GB10 := Aside0.mk gb10; have GG10 := Aside0.mk HG10; clear gb10 gl10 HG10; obtain ⟨ce10, hcl10, hM10, hcc10, hfr10⟩ := Kd.R_elem HO_3.out z57 (x4_1 : Int) p10 q10; obtain rfl := k57_openM hM10; have hx10_0 : w11.cell? ⟨go10, (x4_1 : Int).toNat * 4, none⟩ = some (.string ((rd_T57 x3_1 x4_1).f0)) := hcc10 0 _ rfl; have hx10_1 : w11.cell? ⟨go10, (x4_1 : Int).toNat * 4 + 1, none⟩ = some (.int .i64 ((rd_T57 x3_1 x4_1).f1)) := hcc10 1 _ rfl; have hx10_2 : w11.cell? ⟨go10, (x4_1 : Int).toNat * 4 + 2, none⟩ = some (.string ((rd_T57 x3_1 x4_1).f2)) := hcc10 2 _ rfl; have hx10_3 : w11.cell? ⟨go10, (x4_1 : Int).toNat * 4 + 3, none⟩ = some (.bool ((rd_T57 x3_1 x4_1).f3)) := hcc10 3 _ rfl; have hf10_0 : w11.frozen? ⟨go10, (x4_1 : Int).toNat * 4, none⟩ = false := hfr10 0; have hf10_1 : w11.frozen? ⟨go10, (x4_1 : Int).toNat * 4 + 1, none⟩ = false := hfr10 1; have hf10_2 : w11.frozen? ⟨go10, (x4_1 : Int).toNat * 4 + 2, none⟩ = false := hfr10 2; have hf10_3 : w11.frozen? ⟨go10, (x4_1 : Int).toNat * 4 + 3, none⟩ = false := hfr10 3; clear hcl10 hcc10 hfr10; (try clear hM10); replace p10 := eq_true p10; replace q10 := eq_true q10; have HX12 := Aside0.mk (show Kd.R k57 57 w11 w.heap.size (fun _ => True) (.slice (some ⟨go10, 0, none⟩) x3_1.length co10) x3_1 from (kr_ HO_3)); obtain ⟨ce12, hcl12, hM12, hcc12, hfr12⟩ := Kd.R_elem HX12.out z57 (x4_1 : Int) (dA_) (by have h_ : (x4_1 : Int) < ((x3_1.length : Int) : Int) := dA_; first | exact h_ | (have e_ := (Kd.R_reads' HO_3.out).1; omega) | simpa using h_); obtain rfl := k57_openM hM12; have HP12 := Kd.R_seg HX12.out (x4_1 : Int) (dA_) (by have h_ : (x4_1 : Int) < ((x3_1.length : Int) : Int) := dA_; first | exact h_ | (have e_ := (Kd.R_reads' HO_3.out).1; omega) | simpa using h_) (seg := [.string t309, .int .i64 t310, .string t311, .bool t312]) (j := 0) hcl12 hcc12 (show 4 ≤ 4 from by decide) (x' := (⟨t309, t310, t311, t312⟩ : S57)) (k57_mkM _ _ _ (⟨t309, t310, t311, t312⟩ : S57) ) (fun _ hk => hk); have hx12_0 := hcc12 0 _ rfl; (try simp only [show (k57).sz = 4 from rfl, Nat.mul_one, Nat.add_zero] at hx12_0); have hf12_0 := hfr12 0; (try simp only [show (k57).sz = 4 from rfl, Nat.mul_one, Nat.add_zero] at hf12_0); have hx12_1 := hcc12 1 _ rfl; (try simp only [show (k57).sz = 4 from rfl, Nat.mul_one, Nat.add_zero] at hx12_1); have hf12_1 := hfr12 1; (try simp only [show (k57).sz = 4 from rfl, Nat.mul_one, Nat.add_zero] at hf12_1); have hx12_2 := hcc12 2 _ rfl; (try simp only [show (k57).sz = 4 from rfl, Nat.mul_one, Nat.add_zero] at hx12_2); have hf12_2 := hfr12 2; (try simp only [show (k57).sz = 4 from rfl, Nat.mul_one, Nat.add_zero] at hf12_2); have hx12_3 := hcc12 3 _ rfl; (try simp only [show (k57).sz = 4 from rfl, Nat.mul_one, Nat.add_zero] at hx12_3); have hf12_3 := hfr12 3; (try simp only [show (k57).sz = 4 from rfl, Nat.mul_one, Nat.add_zero] at hf12_3); clear hcl12 hcc12 hfr12; (try clear hM12)) | ((with_reducible refine gate_store (t := 57) (p := 21) rfl ?_); refine store_event (t := 57) (p := 21) (v := ?vo_w13) (w1 := ((((w11.setCell ⟨go10, (x4_1 : Int).toNat * 4, none⟩ (.string t309)).setCell ⟨go10, (x4_1 : Int).toNat * 4 + 1, none⟩ (.int .i64 t310)).setCell ⟨go10, (x4_1 : Int).toNat * 4 + 2, none⟩ (.string t311)).setCell ⟨go10, (x4_1 : Int).toNat * 4 + 3, none⟩ (.bool t312))) ?hg ?ho ?hn ?hr ?_; (case ho => rfl); (case hg => rfl); (case hn => rfl); (case hr => first | (go_simp; done) | (go_simp; rfl)); intro w13 hw; have hg : w11.grownBy w13 (some go10) := (by rw [hw]; exact HP12.2); have hp_ : Kd.R k57 57 w13 w.heap.size (fun _ => True) (.slice (some ⟨go10, 0, none⟩) x3_1.length co10) y313 := (by rw [hw, Ny313.out]; exact HP12.1); clear HP12; replace HO_3 := Aside0.mk (hp_); replace HB := Aside0.mk ((by rw [hw]; exact below_set (below_set (below_set (below_set (HB.out) GB10.out) GB10.out) GB10.out) GB10.out : Below w.heap.size w w13)); clear hg hw hp_))
       go_roundg k1
       case measure => have := HK1.out; omega
       case rel => exact ⟨(y313), (wrap64 (x4_1 + 1)), (by first | rfl | (simp; done) | (simp [*]; done)), H', ⟨by have := HK1.out; omega⟩, ⟨kr_ HO_3⟩, ⟨bw_ HB⟩⟩}
       {
       rw [if_neg c9] at H
       exact absurd H (by simp)}}
       {
       rw [if_neg c7] at H
       exact absurd H (by simp)}}
       {
       rw [if_neg c6] at H
       have c6b0 := decide_eq_false c6
       clear c6
       obtain rfl := Option.some.inj H
       go_wp2
       go_ret
       exact ⟨_, eR_, kr_ HO_3, bw_ HB⟩}}
 {
 rw [if_neg c3] at H
 exact absurd H (by simp)}}
 {
 rw [if_neg c2] at H
 exact absurd H (by simp)
}
def laws_toStringS.l0 : Nat → List ByteArray → List ByteArray → Int → Option (List ByteArray)
 | 0, _, _, _ => none
 | k + 1, x0, x3, x4 => if x4 < (x0.length : Int) then (if 0 ≤ x4 then (if x4 < (x3.length : Int) then (laws_toStringS.l0 k x0 (x3.set (x4 : Int).toNat (rdOf ByteArray.empty x0 x4)) (wrap64 (x4 + 1))) else (none)) else (none)) else (some x3)
def laws_toStringS.f (k : Nat) (l0 : List ByteArray) : Option (List ByteArray) := if 0 ≤ (l0.length : Int) then (if ((l0.length : Int) : Int).toNat ≤ 17592186044416 then (laws_toStringS.l0 k l0 (List.replicate ((l0.length : Int) : Int).toNat (⟨#[]⟩ : ByteArray)) 0) else (none)) else (none)
theorem laws_toStringS.calls (k : Nat) (A0 : Option Addr) (c0 : Nat) (l0 : List ByteArray) (r : List ByteArray) (w : World) (hr0 : Kd.C Kd.string w A0 l0.length l0) (hc0 : l0.length ≤ c0) (h : laws_toStringS.f k l0 = some r) :
 Calls Tryz.prog 28 #[.slice A0 l0.length c0] w fun e w' => ∃ v0_ : Value, e = .returned (v0_) ∧ Kd.R Kd.string 9 w' w.heap.size (fun _ => True) v0_ r ∧ Below w.heap.size w w' := by
 have HR0 := Aside0.mk hr0
 have HC0 := Aside0.mk hc0
 clear hr0 hc0
 have HB := Aside0.mk (Below.refl w.heap.size w)
 have H : (if 0 ≤ (l0.length : Int) then (if ((l0.length : Int) : Int).toNat ≤ 17592186044416 then (laws_toStringS.l0 k l0 (List.replicate ((l0.length : Int) : Int).toNat (⟨#[]⟩ : ByteArray)) 0) else (none)) else (none)) = some r := h
 clear h
 by_cases c2 : 0 ≤ (l0.length : Int)
 {
 rw [if_pos c2] at H
 have c2b0 := eq_true c2
 have c2b1 := decide_eq_true c2
 clear c2
 by_cases c3 : ((l0.length : Int) : Int).toNat ≤ 17592186044416
 {
 rw [if_pos c3] at H
 have c3b0 := eq_true c3
 have c3b1 := decide_eq_true c3
 clear c3
 obtain ⟨y314, hy314⟩ : ∃ y_ : List ByteArray, y_ = (List.replicate ((l0.length : Int) : Int).toNat (⟨#[]⟩ : ByteArray)) := ⟨_, rfl⟩
 replace H : (laws_toStringS.l0 k l0 y314 0) = some r := rH_ hy314 H
 have Ny314 := Aside0.mk hy314
 clear hy314
 have H' := Aside0.mk H
 clear H
 go_enter Tryz.func28, Tryz.ntmps28
 go_wp2_with (first | ((with_reducible refine gate_dst (N := 7) rfl ?_); refine Kd.R_make Kd.string _ 9 rfl (N := 7) rfl 29 _ _ rfl (l0.length : Int) rfl rfl Tryz.underlying29 (.string ⟨#[]⟩) 16 info9 rfl (by decide) (by omega) (⟨#[]⟩ : ByteArray) (ok := fun _ => True) (okp := fun _ => True) rfl (fun _ hk => hk) trivial (dA_) (Nat.le_trans (Nat.mul_le_mul_right _ (dA_ : (l0.length : Int).toNat ≤ 17592186044416)) (by omega)) (Below.refl _ _) (Nat.le_refl _) ?_; intro v315 w4 ho5 hb hg_ hnew_; clear hg_ hnew_; (first | rw [← Ny314.out] at ho5 | (simp only [Int.reduceToNat] at ho5; rw [← Ny314.out] at ho5)); have HO316 := Aside0.mk (Kd.R_lower ho5 (below_size (bw_ HB))); replace HB := Aside0.mk (below_step (bw_ HB) hb); clear hb ho5))
 go_loopg [4] k (fun kq v4 w' => ∃ (x3_1 : List ByteArray) (x4_1 : Int), v4 = .int .i64 x4_1 ∧ Aside0 (laws_toStringS.l0 kq l0 x3_1 x4_1 = some r) ∧ Aside0 (kq ≤ k) ∧ Aside0 (Kd.R Kd.string 9 w' w.heap.size (fun _ => True) v315 x3_1) ∧ Aside0 (Below w.heap.size w w'))
 case atStart => exact ⟨(y314), (0), (by first | rfl | (simp; done) | (simp [*]; done)), H', ⟨Nat.le_refl _⟩, ⟨kr_ HO316⟩, ⟨bw_ HB⟩⟩
 case round =>
  clear H'
  try clear c2
  try clear c2b0
  try clear c2b1
  try clear p2
  try clear c3
  try clear c3b0
  try clear c3b1
  obtain ⟨x3_1, x4_1, rfl, HA, HK1, HO_3, HB⟩ := hrel
  cases gk with
  | zero => exact absurd HA.out (by simp [laws_toStringS.l0])
  | succ k1 =>
       have H := HA.out
       clear HA
       simp only [laws_toStringS.l0] at H
       by_cases c6 : x4_1 < (l0.length : Int)
       {
       rw [if_pos c6] at H
       have c6b0 := decide_eq_true c6
       clear c6
       by_cases c7 : 0 ≤ x4_1
       {
       rw [if_pos c7] at H
       have c7b0 := decide_eq_true c7
       clear c7
       by_cases c8 : x4_1 < (x3_1.length : Int)
       {
       rw [if_pos c8] at H
       have c8b0 := decide_eq_true c8
       clear c8
       obtain ⟨y318, hy318⟩ : ∃ y_ : List ByteArray, y_ = (x3_1.set (x4_1 : Int).toNat (rdOf ByteArray.empty l0 x4_1)) := ⟨_, rfl⟩
       replace H : (laws_toStringS.l0 k1 l0 y318 (wrap64 (x4_1 + 1))) = some r := rH_ hy318 H
       have Ny318 := Aside0.mk hy318
       clear hy318
       have H' := Aside0.mk H
       clear H
       have p317 : 0 ≤ (x4_1 : Int) := dA_
       have q317 : x4_1 < (l0.length : Int) := dA_
       obtain ⟨ad317, e317, hx317_0⟩ := Kd.at_string HR0.out x4_1 p317 q317
       cases e317
       replace hx317_0 := hX_ HB hx317_0
       replace p317 := eq_true p317
       replace q317 := eq_true q317
       have p9 : 0 ≤ (x4_1 : Int) := dA_
       have q9 : (x4_1 : Int) < ((x3_1.length : Int) : Int) := dA_
       obtain ⟨go9, co9, eo9, gb9, gl9, cl9, HG9⟩ := Kd.R_form HO_3.out (by omega)
       (first | cases eo9 | (injection eo9 with ea_ en_ ec_; (first | subst ea_ | (injection ea_ with ea_; subst ea_)); subst ec_; clear en_))
       have GB9 := Aside0.mk gb9
       have GG9 := Aside0.mk HG9
       clear gb9 gl9 HG9
       obtain ⟨hx9_0, hf9_0⟩ := Kd.R_celln (⟨#[]⟩ : ByteArray) HO_3.out (x4_1 : Int) p9 q9
       replace p9 := eq_true p9
       replace q9 := eq_true q9
       have HP10 := Kd.R_putg HO_3.out (x4_1 : Int) (rdOf ByteArray.empty l0 x4_1)
       go_wp2_with (first | ((with_reducible refine gate_store (t := 9) (p := 20) rfl ?_); refine store_event (t := 9) (p := 20) (v := ?vo_w11) (w1 := (wr.setCell ⟨go9, (x4_1 : Int).toNat, none⟩ (.string (rdOf ByteArray.empty l0 x4_1)))) ?hg ?ho ?hn ?hr ?_; (case ho => rfl); (case hg => rfl); (case hn => rfl); (case hr => first | (go_simp; done) | (go_simp; rfl)); intro w11 hw; have hg : wr.grownBy w11 (some go9) := (by rw [hw]; exact HP10.2); have hp_ : Kd.R Kd.string 9 w11 w.heap.size (fun _ => True) (.slice (some ⟨go9, 0, none⟩) x3_1.length co9) y318 := (by rw [hw, Ny318.out]; exact HP10.1); clear HP10; replace HO_3 := Aside0.mk (hp_); replace HB := Aside0.mk ((by rw [hw]; exact below_set (HB.out) GB9.out : Below w.heap.size w w11)); clear hg hw hp_))
       go_roundg k1
       case measure => have := HK1.out; omega
       case rel => exact ⟨(y318), (wrap64 (x4_1 + 1)), (by first | rfl | (simp; done) | (simp [*]; done)), H', ⟨by have := HK1.out; omega⟩, ⟨kr_ HO_3⟩, ⟨bw_ HB⟩⟩}
       {
       rw [if_neg c8] at H
       exact absurd H (by simp)}}
       {
       rw [if_neg c7] at H
       exact absurd H (by simp)}}
       {
       rw [if_neg c6] at H
       have c6b0 := decide_eq_false c6
       clear c6
       obtain rfl := Option.some.inj H
       go_wp2
       go_ret
       exact ⟨_, eR_, kr_ HO_3, bw_ HB⟩}}
 {
 rw [if_neg c3] at H
 exact absurd H (by simp)}}
 {
 rw [if_neg c2] at H
 exact absurd H (by simp)
}
def laws_toItem.f (k : Nat) (a0_0 : ByteArray) (a0_1 : ByteArray) (l0_2 : List ByteArray) (a0_3 : ByteArray) (l0_4 : List (S70)) : Option (ByteArray × ByteArray × List ByteArray × ByteArray × (List (S57))) := (laws_toStringS.f k l0_2).bind fun t322 => ((laws_toEntryS.f k l0_4).bind fun t325 => (some (a0_0, a0_1, t322, a0_3, t325)))
theorem laws_toItem.calls (k : Nat) (a0_0 : ByteArray) (a0_1 : ByteArray) (A0_2 : Option Addr) (c0_2 : Nat) (l0_2 : List ByteArray) (a0_3 : ByteArray) (A0_4 : Option Addr) (c0_4 : Nat) (l0_4 : List (S70)) (r1 : ByteArray) (r2 : ByteArray) (r3 : List ByteArray) (r4 : ByteArray) (r5 : List (S57)) (w : World) (hr0_2 : Kd.C Kd.string w A0_2 l0_2.length l0_2) (hc0_2 : l0_2.length ≤ c0_2) (hr0_4 : Kd.C k70 w A0_4 l0_4.length l0_4) (hc0_4 : l0_4.length ≤ c0_4) (h : laws_toItem.f k a0_0 a0_1 l0_2 a0_3 l0_4 = some (r1, r2, r3, r4, r5)) :
 Calls Tryz.prog 34 #[.agg #[.string a0_0, .string a0_1, .slice A0_2 l0_2.length c0_2, .string a0_3, .slice A0_4 l0_4.length c0_4]] w fun e w' => ∃ v2_ v4_ : Value, e = .returned (.agg #[.string r1, .string r2, v2_, .string r4, v4_]) ∧ Kd.R Kd.string 9 w' w.heap.size (fun _ => True) v2_ r3 ∧ Kd.R k57 57 w' w.heap.size (fun _ => True) v4_ r5 ∧ Below w.heap.size w w' := by
 have hu52 := Tryz.underlying52
 have hu55 := Tryz.underlying55
 have HR0_2 := Aside0.mk hr0_2
 have HC0_2 := Aside0.mk hc0_2
 clear hr0_2 hc0_2
 have HR0_4 := Aside0.mk hr0_4
 have HC0_4 := Aside0.mk hc0_4
 clear hr0_4 hc0_4
 have HB := Aside0.mk (Below.refl w.heap.size w)
 have H : ((laws_toStringS.f k l0_2).bind fun t322 => ((laws_toEntryS.f k l0_4).bind fun t325 => (some (a0_0, a0_1, t322, a0_3, t325)))) = some (r1, r2, r3, r4, r5) := h
 clear h
 replace H := Option.bind_eq_some_iff.mp H
 obtain ⟨t322, A20, H⟩ := H
 have A2 := Aside0.mk A20
 clear A20
 replace H := Option.bind_eq_some_iff.mp H
 obtain ⟨t325, A30, H⟩ := H
 have A3 := Aside0.mk A30
 clear A30
 simp only [Option.some.injEq, Prod.mk.injEq] at H
 obtain ⟨rfl, rfl, rfl, rfl, rfl⟩ := H
 go_enter Tryz.func34, Tryz.ntmps34
 go_wp2_with (first | ((with_reducible refine gate_dst (N := 1) rfl ?_); refine bE_ 1 #[.string a0_0, .string a0_1, .slice A0_2 l0_2.length c0_2, .string a0_3, .slice A0_4 l0_4.length c0_4] 52 ?_; intro gb319 hg w4 hbox hb; have BK319 := Aside0.mk (hbox); have GW319 := Aside0.mk (ge_ hg (bw_ HB)); have GE319 := Aside0.mk (ge_ hg (bw_ HB)); replace HB := Aside0.mk (below_step (bw_ HB) hb); clear hb hbox hg) | ((with_reducible refine gate_dst (N := 2) rfl ?_); refine bE_ 2 #[.string (⟨#[]⟩ : ByteArray), .string (⟨#[]⟩ : ByteArray), .slice none 0 0, .string (⟨#[]⟩ : ByteArray), .slice none 0 0] 55 ?_; intro gb320 hg w5 hbox hb; have BK320 := Aside0.mk (hbox); have GW320 := Aside0.mk (ge_ hg (bw1_ HB GE319)); have GE320 := Aside0.mk (ge_ hg (bw1_ HB GE319)); replace HB := Aside0.mk (below_step (bw1_ HB GE319) hb); have NB319_320 := Aside0.mk ((by rw [hg]; exact Nat.ne_of_lt (blk_lt (bk_ BK319)) : gb319 ≠ gb320)); have NB320_319 := Aside0.mk ((by rw [hg]; exact Nat.ne_of_gt (blk_lt (bk_ BK319)) : gb320 ≠ gb319)); replace BK319 := Aside0.mk (blk_below (bk_ BK319) hb); clear hb hbox hg) | ((with_reducible refine gate_dst (N := 3) rfl ?_); refine bE_ 3 #[.string (⟨#[]⟩ : ByteArray), .string (⟨#[]⟩ : ByteArray), .slice none 0 0, .string (⟨#[]⟩ : ByteArray), .slice none 0 0] 55 ?_; intro gb321 hg w6 hbox hb; have BK321 := Aside0.mk (hbox); have GW321 := Aside0.mk (ge_ hg (bw2_ HB GE319 GE320)); have GE321 := Aside0.mk (ge_ hg (bw2_ HB GE319 GE320)); replace HB := Aside0.mk (below_step (bw2_ HB GE319 GE320) hb); have NB319_321 := Aside0.mk ((by rw [hg]; exact Nat.ne_of_lt (blk_lt (bk_ BK319)) : gb319 ≠ gb321)); have NB321_319 := Aside0.mk ((by rw [hg]; exact Nat.ne_of_gt (blk_lt (bk_ BK319)) : gb321 ≠ gb319)); replace BK319 := Aside0.mk (blk_below (bk_ BK319) hb); have NB320_321 := Aside0.mk ((by rw [hg]; exact Nat.ne_of_lt (blk_lt (bk_ BK320)) : gb320 ≠ gb321)); have NB321_320 := Aside0.mk ((by rw [hg]; exact Nat.ne_of_gt (blk_lt (bk_ BK320)) : gb321 ≠ gb320)); replace BK320 := Aside0.mk (blk_below (bk_ BK320) hb); clear hb hbox hg; have hnb7 := NB319_320.out; have hnc7 := NB320_319.out; have hnb8 := NB319_321.out; have hnc8 := NB321_319.out; have hcz9_0 := cz_ BK319 0 (.string a0_0); have hcz9_1 := cz_ BK319 1 (.string a0_1); have hcz9_2 := cz_ BK319 2 (.slice A0_2 l0_2.length c0_2); have hcz9_3 := cz_ BK319 3 (.string a0_3); have hcz9_4 := cz_ BK319 4 (.slice A0_4 l0_4.length c0_4); have hfz9_0 := blk_frozen BK319.out 0; have hfz9_1 := blk_frozen BK319.out 1; have hfz9_2 := blk_frozen BK319.out 2; have hfz9_3 := blk_frozen BK319.out 3; have hfz9_4 := blk_frozen BK319.out 4; have hnb10 := NB321_320.out; have hnc10 := NB320_321.out; have hcz11_0 := cz_ BK321 0 (.string (⟨#[]⟩ : ByteArray)); have hcz11_1 := cz_ BK321 1 (.string (⟨#[]⟩ : ByteArray)); have hcz11_2 := cz_ BK321 2 (.slice none 0 0); have hcz11_3 := cz_ BK321 3 (.string (⟨#[]⟩ : ByteArray)); have hcz11_4 := cz_ BK321 4 (.slice none 0 0); have hfz11_0 := blk_frozen BK321.out 0; have hfz11_1 := blk_frozen BK321.out 1; have hfz11_2 := blk_frozen BK321.out 2; have hfz11_3 := blk_frozen BK321.out 3; have hfz11_4 := blk_frozen BK321.out 4) | ((with_reducible refine gate_callee (f := 28) rfl ?_); refine gL_ (some 12) Tryz.func28 #[.slice A0_2 l0_2.length c0_2] ?_; (with_reducible refine (laws_toStringS.calls k _ _ l0_2 t322 _ ?side1 ?side2 A2.out).mono ?_); (case side1 => exact Kd.C_below HR0_2.out (by repeat (first | (with_reducible first | exact HB.out | apply below_alloc | apply pw_below_drewN | apply below_drew1 | refine below_set ?_ GE319.out | refine below_set ?_ GE320.out | refine below_set ?_ GE321.out) | exact HB.out))); (case side2 => exact HC0_2.out); rintro e w12 ⟨v323, rfl, ho0, hb⟩; refine ⟨_, rfl, ?_⟩; have HO324 := Aside0.mk (Kd.R_lower ho0 (below_size (by repeat (first | (with_reducible first | exact HB.out | apply below_alloc | apply pw_below_drewN | apply below_drew1 | refine below_set ?_ GE319.out | refine below_set ?_ GE320.out | refine below_set ?_ GE321.out) | exact HB.out)))); replace BK319 := Aside0.mk (blk_below (g := gb319) (o := .cells #[.string a0_0, .string a0_1, .slice A0_2 l0_2.length c0_2, .string a0_3, .slice A0_4 l0_4.length c0_4] 52 (0, 0)) (by (with_reducible repeat (first | refine blk_drewN ?_ _ | refine blk_drew ?_ | refine blk_alloc ?_ _)); refine blk_far ?_ NB319_321.out _; (with_reducible repeat (first | refine blk_drewN ?_ _ | refine blk_drew ?_ | refine blk_alloc ?_ _)); refine blk_far ?_ NB319_321.out _; (with_reducible repeat (first | refine blk_drewN ?_ _ | refine blk_drew ?_ | refine blk_alloc ?_ _)); exact BK319.out) hb); replace BK320 := Aside0.mk (blk_below (g := gb320) (o := .cells #[.string (⟨#[]⟩ : ByteArray), .string (⟨#[]⟩ : ByteArray), .slice none 0 0, .string (⟨#[]⟩ : ByteArray), .slice none 0 0] 55 (0, 0)) (by (with_reducible repeat (first | refine blk_drewN ?_ _ | refine blk_drew ?_ | refine blk_alloc ?_ _)); refine blk_far ?_ NB320_321.out _; (with_reducible repeat (first | refine blk_drewN ?_ _ | refine blk_drew ?_ | refine blk_alloc ?_ _)); refine blk_far ?_ NB320_321.out _; (with_reducible repeat (first | refine blk_drewN ?_ _ | refine blk_drew ?_ | refine blk_alloc ?_ _)); exact BK320.out) hb); replace BK321 := Aside0.mk (blk_below (g := gb321) (o := .cells #[.string a0_0, .string a0_1, .slice none 0 0, .string (⟨#[]⟩ : ByteArray), .slice none 0 0] 55 (0, 0)) (by (with_reducible repeat (first | refine blk_drewN ?_ _ | refine blk_drew ?_ | refine blk_alloc ?_ _)); refine blk_put (cs := #[.string a0_0, .string (⟨#[]⟩ : ByteArray), .slice none 0 0, .string (⟨#[]⟩ : ByteArray), .slice none 0 0]) ?_ 1 _ rfl; (with_reducible repeat (first | refine blk_drewN ?_ _ | refine blk_drew ?_ | refine blk_alloc ?_ _)); refine blk_put (cs := #[.string (⟨#[]⟩ : ByteArray), .string (⟨#[]⟩ : ByteArray), .slice none 0 0, .string (⟨#[]⟩ : ByteArray), .slice none 0 0]) ?_ 0 _ rfl; (with_reducible repeat (first | refine blk_drewN ?_ _ | refine blk_drew ?_ | refine blk_alloc ?_ _)); exact BK321.out) hb); replace HB := Aside0.mk (below_step (by repeat (first | (with_reducible first | exact HB.out | apply below_alloc | apply pw_below_drewN | apply below_drew1 | refine below_set ?_ GE319.out | refine below_set ?_ GE320.out | refine below_set ?_ GE321.out) | exact HB.out)) hb); clear hb; (try clear ho0); obtain ⟨Ao13, co13, eo13⟩ := Kd.R_slice HO324.out; subst eo13; have hcz14_0 := cz_ BK321 0 (.string a0_0); have hcz14_1 := cz_ BK321 1 (.string a0_1); have hcz14_2 := cz_ BK321 2 (.slice none 0 0); have hcz14_3 := cz_ BK321 3 (.string (⟨#[]⟩ : ByteArray)); have hcz14_4 := cz_ BK321 4 (.slice none 0 0); have hfz14_0 := blk_frozen BK321.out 0; have hfz14_1 := blk_frozen BK321.out 1; have hfz14_2 := blk_frozen BK321.out 2; have hfz14_3 := blk_frozen BK321.out 3; have hfz14_4 := blk_frozen BK321.out 4; have hcz15_0 := cz_ BK319 0 (.string a0_0); have hcz15_1 := cz_ BK319 1 (.string a0_1); have hcz15_2 := cz_ BK319 2 (.slice A0_2 l0_2.length c0_2); have hcz15_3 := cz_ BK319 3 (.string a0_3); have hcz15_4 := cz_ BK319 4 (.slice A0_4 l0_4.length c0_4); have hfz15_0 := blk_frozen BK319.out 0; have hfz15_1 := blk_frozen BK319.out 1; have hfz15_2 := blk_frozen BK319.out 2; have hfz15_3 := blk_frozen BK319.out 3; have hfz15_4 := blk_frozen BK319.out 4) | ((with_reducible refine gate_callee (f := 21) rfl ?_); refine gL_ (some 19) Tryz.func21 #[.slice A0_4 l0_4.length c0_4] ?_; (with_reducible refine (laws_toEntryS.calls k _ _ l0_4 t325 _ ?side1 ?side2 A3.out).mono ?_); (case side1 => exact Kd.C_below HR0_4.out (by repeat (first | (with_reducible first | exact HB.out | apply below_alloc | apply pw_below_drewN | apply below_drew1 | refine below_set ?_ GE319.out | refine below_set ?_ GE320.out | refine below_set ?_ GE321.out) | exact HB.out))); (case side2 => exact HC0_4.out); rintro e w16 ⟨v326, rfl, ho0, hb⟩; refine ⟨_, rfl, ?_⟩; replace HO324 := Aside0.mk (Kd.R_below (by (with_reducible repeat (first | apply Kd.R_alloc | apply Kd.R_drewN | apply Kd.R_drew)); exact (Kd.R_mono (Kd.R_far (p := ⟨gb321, 3, none⟩) (Kd.R_far (p := ⟨gb321, 2, none⟩) (Kd.R_types HO324.out BK321.out (by decide)) (fun _ hk => hk.2) (.slice Ao13 t322.length co13)) (fun _ hk => hk.2) (.string a0_3)) (fun _ h_ => h_.1))) hb); have HO327 := Aside0.mk (Kd.R_lower ho0 (below_size (by repeat (first | (with_reducible first | exact HB.out | apply below_alloc | apply pw_below_drewN | apply below_drew1 | refine below_set ?_ GE319.out | refine below_set ?_ GE320.out | refine below_set ?_ GE321.out) | exact HB.out)))); replace BK319 := Aside0.mk (blk_below (g := gb319) (o := .cells #[.string a0_0, .string a0_1, .slice A0_2 l0_2.length c0_2, .string a0_3, .slice A0_4 l0_4.length c0_4] 52 (0, 0)) (by (with_reducible repeat (first | refine blk_drewN ?_ _ | refine blk_drew ?_ | refine blk_alloc ?_ _)); refine blk_far ?_ NB319_321.out _; (with_reducible repeat (first | refine blk_drewN ?_ _ | refine blk_drew ?_ | refine blk_alloc ?_ _)); refine blk_far ?_ NB319_321.out _; (with_reducible repeat (first | refine blk_drewN ?_ _ | refine blk_drew ?_ | refine blk_alloc ?_ _)); exact BK319.out) hb); replace BK320 := Aside0.mk (blk_below (g := gb320) (o := .cells #[.string (⟨#[]⟩ : ByteArray), .string (⟨#[]⟩ : ByteArray), .slice none 0 0, .string (⟨#[]⟩ : ByteArray), .slice none 0 0] 55 (0, 0)) (by (with_reducible repeat (first | refine blk_drewN ?_ _ | refine blk_drew ?_ | refine blk_alloc ?_ _)); refine blk_far ?_ NB320_321.out _; (with_reducible repeat (first | refine blk_drewN ?_ _ | refine blk_drew ?_ | refine blk_alloc ?_ _)); refine blk_far ?_ NB320_321.out _; (with_reducible repeat (first | refine blk_drewN ?_ _ | refine blk_drew ?_ | refine blk_alloc ?_ _)); exact BK320.out) hb); replace BK321 := Aside0.mk (blk_below (g := gb321) (o := .cells #[.string a0_0, .string a0_1, .slice Ao13 t322.length co13, .string a0_3, .slice none 0 0] 55 (0, 0)) (by (with_reducible repeat (first | refine blk_drewN ?_ _ | refine blk_drew ?_ | refine blk_alloc ?_ _)); refine blk_put (cs := #[.string a0_0, .string a0_1, .slice Ao13 t322.length co13, .string (⟨#[]⟩ : ByteArray), .slice none 0 0]) ?_ 3 _ rfl; (with_reducible repeat (first | refine blk_drewN ?_ _ | refine blk_drew ?_ | refine blk_alloc ?_ _)); refine blk_put (cs := #[.string a0_0, .string a0_1, .slice none 0 0, .string (⟨#[]⟩ : ByteArray), .slice none 0 0]) ?_ 2 _ rfl; (with_reducible repeat (first | refine blk_drewN ?_ _ | refine blk_drew ?_ | refine blk_alloc ?_ _)); exact BK321.out) hb); replace HB := Aside0.mk (below_step (by repeat (first | (with_reducible first | exact HB.out | apply below_alloc | apply pw_below_drewN | apply below_drew1 | refine below_set ?_ GE319.out | refine below_set ?_ GE320.out | refine below_set ?_ GE321.out) | exact HB.out)) hb); clear hb; (try clear ho0); obtain ⟨Ao17, co17, eo17⟩ := Kd.R_slice HO327.out; subst eo17; have hcz18_0 := cz_ BK321 0 (.string a0_0); have hcz18_1 := cz_ BK321 1 (.string a0_1); have hcz18_2 := cz_ BK321 2 (.slice Ao13 t322.length co13); have hcz18_3 := cz_ BK321 3 (.string a0_3); have hcz18_4 := cz_ BK321 4 (.slice none 0 0); have hfz18_0 := blk_frozen BK321.out 0; have hfz18_1 := blk_frozen BK321.out 1; have hfz18_2 := blk_frozen BK321.out 2; have hfz18_3 := blk_frozen BK321.out 3; have hfz18_4 := blk_frozen BK321.out 4; have hcz19_0 := cz_ BK320 0 (.string (⟨#[]⟩ : ByteArray)); have hcz19_1 := cz_ BK320 1 (.string (⟨#[]⟩ : ByteArray)); have hcz19_2 := cz_ BK320 2 (.slice none 0 0); have hcz19_3 := cz_ BK320 3 (.string (⟨#[]⟩ : ByteArray)); have hcz19_4 := cz_ BK320 4 (.slice none 0 0); have hfz19_0 := blk_frozen BK320.out 0; have hfz19_1 := blk_frozen BK320.out 1; have hfz19_2 := blk_frozen BK320.out 2; have hfz19_3 := blk_frozen BK320.out 3; have hfz19_4 := blk_frozen BK320.out 4))
 refine bodyPost_ret (results_cell_row rfl _ _ gb320 55 #[.string a0_0, .string a0_1, .slice Ao13 t322.length co13, .string a0_3, .slice Ao17 t325.length co17] (0, 0) _ rfl (by (with_reducible repeat (first | refine blk_drewN ?_ _ | refine blk_drew ?_ | refine blk_alloc ?_ _)); refine blk_put (cs := #[.string a0_0, .string a0_1, .slice Ao13 t322.length co13, .string a0_3, .slice none 0 0]) ?_ 4 _ rfl; (with_reducible repeat (first | refine blk_drewN ?_ _ | refine blk_drew ?_ | refine blk_alloc ?_ _)); refine blk_put (cs := #[.string a0_0, .string a0_1, .slice Ao13 t322.length co13, .string (⟨#[]⟩ : ByteArray), .slice none 0 0]) ?_ 3 _ rfl; (with_reducible repeat (first | refine blk_drewN ?_ _ | refine blk_drew ?_ | refine blk_alloc ?_ _)); refine blk_put (cs := #[.string a0_0, .string a0_1, .slice none 0 0, .string (⟨#[]⟩ : ByteArray), .slice none 0 0]) ?_ 2 _ rfl; (with_reducible repeat (first | refine blk_drewN ?_ _ | refine blk_drew ?_ | refine blk_alloc ?_ _)); refine blk_put (cs := #[.string a0_0, .string (⟨#[]⟩ : ByteArray), .slice none 0 0, .string (⟨#[]⟩ : ByteArray), .slice none 0 0]) ?_ 1 _ rfl; (with_reducible repeat (first | refine blk_drewN ?_ _ | refine blk_drew ?_ | refine blk_alloc ?_ _)); refine blk_put (cs := #[.string (⟨#[]⟩ : ByteArray), .string (⟨#[]⟩ : ByteArray), .slice none 0 0, .string (⟨#[]⟩ : ByteArray), .slice none 0 0]) ?_ 0 _ rfl; (with_reducible repeat (first | refine blk_drewN ?_ _ | refine blk_drew ?_ | refine blk_alloc ?_ _)); refine blk_far ?_ NB320_321.out _; (with_reducible repeat (first | refine blk_drewN ?_ _ | refine blk_drew ?_ | refine blk_alloc ?_ _)); exact BK320.out) Tryz.underlying55 rfl (by kernel_rfl)) rfl ?_
 exact ⟨_, _, eR_, by (with_reducible repeat (first | apply Kd.R_alloc | apply Kd.R_drewN | apply Kd.R_drew)); exact Kd.R_mono (Kd.R_far (p := ⟨gb320, 4, none⟩) (Kd.R_far (p := ⟨gb320, 3, none⟩) (Kd.R_far (p := ⟨gb320, 2, none⟩) (Kd.R_far (p := ⟨gb320, 1, none⟩) (Kd.R_far (p := ⟨gb320, 0, none⟩) (Kd.R_far (p := ⟨gb321, 4, none⟩) (Kd.R_types (Kd.R_types HO324.out BK321.out (by decide)) BK320.out (by decide)) (fun _ hk => hk.1.2) (.slice Ao17 t325.length co17)) (fun _ hk => hk.2) (.string a0_0)) (fun _ hk => hk.2) (.string a0_1)) (fun _ hk => hk.2) (.slice Ao13 t322.length co13)) (fun _ hk => hk.2) (.string a0_3)) (fun _ hk => hk.2) (.slice Ao17 t325.length co17)) (fun _ hk => trivial), by (with_reducible repeat (first | apply Kd.R_alloc | apply Kd.R_drewN | apply Kd.R_drew)); exact Kd.R_mono (Kd.R_far (p := ⟨gb320, 4, none⟩) (Kd.R_far (p := ⟨gb320, 3, none⟩) (Kd.R_far (p := ⟨gb320, 2, none⟩) (Kd.R_far (p := ⟨gb320, 1, none⟩) (Kd.R_far (p := ⟨gb320, 0, none⟩) (Kd.R_far (p := ⟨gb321, 4, none⟩) (Kd.R_types (Kd.R_types HO327.out BK321.out (by decide)) BK320.out (by decide)) (fun _ hk => hk.1.2) (.slice Ao17 t325.length co17)) (fun _ hk => hk.2) (.string a0_0)) (fun _ hk => hk.2) (.string a0_1)) (fun _ hk => hk.2) (.slice Ao13 t322.length co13)) (fun _ hk => hk.2) (.string a0_3)) (fun _ hk => hk.2) (.slice Ao17 t325.length co17)) (fun _ hk => trivial), by repeat (first | (with_reducible first | exact HB.out | apply below_alloc | apply pw_below_drewN | apply below_drew1 | refine below_set ?_ GE319.out | refine below_set ?_ GE320.out | refine below_set ?_ GE321.out) | exact HB.out)⟩
def laws_toItemS.l0 : Nat → List (S52) → List (S55) → Int → Option ((List (S55)))
 | 0, _, _, _ => none
 | k + 1, x0, x3, x4 => if x4 < (x0.length : Int) then (if 0 ≤ x4 then ((laws_toItem.f k ((rd_T52 x0 x4).f0) ((rd_T52 x0 x4).f1) ((rd_T52 x0 x4).f2) ((rd_T52 x0 x4).f3) ((rd_T52 x0 x4).f4)).bind fun bt332 => (if x4 < (x3.length : Int) then (laws_toItemS.l0 k x0 (x3.set (x4 : Int).toNat (⟨bt332.1, bt332.2.1, bt332.2.2.1, bt332.2.2.2.1, bt332.2.2.2.2⟩ : S55)) (wrap64 (x4 + 1))) else (none))) else (none)) else (some x3)
def laws_toItemS.f (k : Nat) (l0 : List (S52)) : Option ((List (S55))) := if 0 ≤ (l0.length : Int) then (if ((l0.length : Int) : Int).toNat ≤ 2932031007402 then (laws_toItemS.l0 k l0 (List.replicate ((l0.length : Int) : Int).toNat z55) 0) else (none)) else (none)
theorem laws_toItemS.calls (k : Nat) (A0 : Option Addr) (c0 : Nat) (l0 : List (S52)) (r : List (S55)) (w : World) (hr0 : Kd.C k52 w A0 l0.length l0) (hc0 : l0.length ≤ c0) (h : laws_toItemS.f k l0 = some r) :
 Calls Tryz.prog 10 #[.slice A0 l0.length c0] w fun e w' => ∃ v0_ : Value, e = .returned (v0_) ∧ Kd.S k55 55 w' w.heap.size (fun _ => True) v0_ r ∧ Below w.heap.size w w' := by
 have hu52 := Tryz.underlying52
 have hu55 := Tryz.underlying55
 have HR0 := Aside0.mk hr0
 have HC0 := Aside0.mk hc0
 clear hr0 hc0
 have HB := Aside0.mk (Below.refl w.heap.size w)
 have H : (if 0 ≤ (l0.length : Int) then (if ((l0.length : Int) : Int).toNat ≤ 2932031007402 then (laws_toItemS.l0 k l0 (List.replicate ((l0.length : Int) : Int).toNat z55) 0) else (none)) else (none)) = some r := h
 clear h
 by_cases c2 : 0 ≤ (l0.length : Int)
 {
 rw [if_pos c2] at H
 have c2b0 := eq_true c2
 have c2b1 := decide_eq_true c2
 clear c2
 by_cases c3 : ((l0.length : Int) : Int).toNat ≤ 2932031007402
 {
 rw [if_pos c3] at H
 have c3b0 := eq_true c3
 have c3b1 := decide_eq_true c3
 clear c3
 obtain ⟨y328, hy328⟩ : ∃ y_ : List (S55), y_ = (List.replicate ((l0.length : Int) : Int).toNat z55) := ⟨_, rfl⟩
 replace H : (laws_toItemS.l0 k l0 y328 0) = some r := rH_ hy328 H
 have Ny328 := Aside0.mk hy328
 clear hy328
 have H' := Aside0.mk H
 clear H
 go_enter Tryz.func10, Tryz.ntmps10
 go_wp2_with (first | ((with_reducible refine gate_dst (N := 7) rfl ?_); refine Kd.S_make k55 _ 55 rfl (N := 7) rfl 25 _ _ rfl (l0.length : Int) rfl rfl Tryz.underlying25 (.agg #[(.string ⟨#[]⟩), (.string ⟨#[]⟩), (.slice none 0 0), (.string ⟨#[]⟩), (.slice none 0 0)]) 96 info55 rfl (by decide) (by omega) z55 (ok := fun _ => True) (okp := fun _ => True) (k55_mkM _ _ _ z55 (Kd.R_nil _ _ _ _ _) (Kd.R_nil _ _ _ _ _)) (fun _ hk => hk) trivial (dA_) (Nat.le_trans (Nat.mul_le_mul_right _ (dA_ : (l0.length : Int).toNat ≤ 2932031007402)) (by omega)) (Below.refl _ _) (Nat.le_refl _) ?_; intro v329 w4 ho5 hb hg_ hnew_; clear hg_ hnew_; (first | rw [← Ny328.out] at ho5 | (simp only [Int.reduceToNat] at ho5; rw [← Ny328.out] at ho5)); have HO330 := Aside0.mk (Kd.S_lower ho5 (below_size (bw_ HB))); replace HB := Aside0.mk (below_step (bw_ HB) hb); clear hb ho5))
 go_loopg [4] k (fun kq v4 w' => ∃ (x3_1 : List (S55)) (x4_1 : Int), v4 = .int .i64 x4_1 ∧ Aside0 (laws_toItemS.l0 kq l0 x3_1 x4_1 = some r) ∧ Aside0 (kq ≤ k) ∧ Aside0 (Kd.S k55 55 w' w.heap.size (fun _ => True) v329 x3_1) ∧ Aside0 (Below w.heap.size w w'))
 case atStart => exact ⟨(y328), (0), (by first | rfl | (simp; done) | (simp [*]; done)), H', ⟨Nat.le_refl _⟩, ⟨ks_ HO330⟩, ⟨bw_ HB⟩⟩
 case round =>
  clear H'
  try clear c1
  try clear c2
  try clear c2b0
  try clear c2b1
  try clear p2
  try clear c3
  try clear c3b0
  try clear c3b1
  obtain ⟨x3_1, x4_1, rfl, HA, HK1, HO_3, HB⟩ := hrel
  cases gk with
  | zero => exact absurd HA.out (by simp [laws_toItemS.l0])
  | succ k1 =>
       have H := HA.out
       clear HA
       simp only [laws_toItemS.l0] at H
       by_cases c6 : x4_1 < (l0.length : Int)
       {
       rw [if_pos c6] at H
       have c6b0 := decide_eq_true c6
       clear c6
       by_cases c7 : 0 ≤ x4_1
       {
       rw [if_pos c7] at H
       have c7b0 := decide_eq_true c7
       clear c7
       replace H := Option.bind_eq_some_iff.mp H
       obtain ⟨⟨t332, t333, t334, t337, t338⟩, A80, H⟩ := H
       have A8 := Aside0.mk A80
       clear A80
       by_cases c9 : x4_1 < (x3_1.length : Int)
       {
       rw [if_pos c9] at H
       have c9b0 := decide_eq_true c9
       clear c9
       obtain ⟨y341, hy341⟩ : ∃ y_ : List (S55), y_ = (x3_1.set (x4_1 : Int).toNat (⟨t332, t333, t334, t337, t338⟩ : S55)) := ⟨_, rfl⟩
       replace H : (laws_toItemS.l0 k1 l0 y341 (wrap64 (x4_1 + 1))) = some r := rH_ hy341 H
       have Ny341 := Aside0.mk hy341
       clear hy341
       have H' := Aside0.mk H
       clear H
       have p331 : 0 ≤ (x4_1 : Int) := dA_
       have q331 : x4_1 < (l0.length : Int) := dA_
       obtain ⟨ad331, A331_2, c331_2, A331_4, c331_4, e331, hx331_0, hx331_1, hx331_2, hx331_3, hx331_4, hl331_2, hi331_2, hl331_4, hi331_4⟩ := at_T52 HR0.out x4_1 p331 q331
       cases e331
       replace hx331_0 := hX_ HB hx331_0
       replace hx331_1 := hX_ HB hx331_1
       replace hx331_2 := hX_ HB hx331_2
       replace hx331_3 := hX_ HB hx331_3
       replace hx331_4 := hX_ HB hx331_4
       have HR331_2 := Aside0.mk hi331_2
       have HC331_2 := Aside0.mk hl331_2
       clear hi331_2 hl331_2
       have HR331_4 := Aside0.mk hi331_4
       have HC331_4 := Aside0.mk hl331_4
       clear hi331_4 hl331_4
       replace p331 := eq_true p331
       replace q331 := eq_true q331
       go_wp2_with (first | ((with_reducible refine gate_callee (f := 34) rfl ?_); refine gL_ (some 20) Tryz.func34 #[.agg #[.string ((rd_T52 l0 x4_1).f0), .string ((rd_T52 l0 x4_1).f1), .slice A331_2 ((rd_T52 l0 x4_1).f2).length c331_2, .string ((rd_T52 l0 x4_1).f3), .slice A331_4 ((rd_T52 l0 x4_1).f4).length c331_4]] ?_; (with_reducible refine (laws_toItem.calls k1 ((rd_T52 l0 x4_1).f0) ((rd_T52 l0 x4_1).f1) _ _ ((rd_T52 l0 x4_1).f2) ((rd_T52 l0 x4_1).f3) _ _ ((rd_T52 l0 x4_1).f4) t332 t333 t334 t337 t338 _ ?side1 ?side2 ?side3 ?side4 A8.out).mono ?_); (case side1 => exact cS_ HR331_2 HB); (case side2 => exact HC331_2.out); (case side3 => exact cS_ HR331_4 HB); (case side4 => exact HC331_4.out); rintro e w11 ⟨v335, v339, rfl, ho0, ho1, hb⟩; refine ⟨_, rfl, ?_⟩; replace HO_3 := Aside0.mk (Kd.S_mono (Kd.S_told (Kd.S_told (Kd.S_old (ks_ HO_3) hb) (Kd.R_base ho0)) (Kd.R_base ho1)) (fun _ h_ => h_.1)); have HO336 := Aside0.mk (Kd.R_lower ho0 (below_size (bw_ HB))); have HO340 := Aside0.mk (Kd.R_lower ho1 (below_size (bw_ HB))); replace HB := Aside0.mk (below_step (bw_ HB) hb); clear hb; (try clear ho0); (try clear ho1); have p10 : 0 ≤ (x4_1 : Int) := dA_; have q10 : (x4_1 : Int) < ((x3_1.length : Int) : Int) := dA_; obtain ⟨go10, co10, eo10, gb10, gl10, cl10, HG10⟩ := Kd.S_form HO_3.out (by omega); (first | cases eo10 | (injection eo10 with ea_ en_ ec_; (first | subst ea_ | (injection ea_ with ea_; subst ea_)); subst ec_; clear en_)); have GB10 := Aside0.mk gb10; have GG10 := Aside0.mk HG10; clear gb10 gl10 HG10; obtain ⟨_, ce10, hcl10, hM10, hcc10, hfr10, _, _⟩ := Kd.S_elem HO_3.out z55 (x4_1 : Int) p10 q10; obtain ⟨ve10_2, ve10_4, rfl, ge10_2, ge10_4⟩ := k55_openM hM10; have hx10_0 : w11.cell? ⟨go10, (x4_1 : Int).toNat * 5, none⟩ = some (.string ((rd_T55 x3_1 x4_1).f0)) := hcc10 0 _ rfl; have hx10_1 : w11.cell? ⟨go10, (x4_1 : Int).toNat * 5 + 1, none⟩ = some (.string ((rd_T55 x3_1 x4_1).f1)) := hcc10 1 _ rfl; have hx10_2 : w11.cell? ⟨go10, (x4_1 : Int).toNat * 5 + 2, none⟩ = some (ve10_2) := hcc10 2 _ rfl; have hx10_3 : w11.cell? ⟨go10, (x4_1 : Int).toNat * 5 + 3, none⟩ = some (.string ((rd_T55 x3_1 x4_1).f3)) := hcc10 3 _ rfl; have hx10_4 : w11.cell? ⟨go10, (x4_1 : Int).toNat * 5 + 4, none⟩ = some (ve10_4) := hcc10 4 _ rfl; have hf10_0 : w11.frozen? ⟨go10, (x4_1 : Int).toNat * 5, none⟩ = false := hfr10 0; have hf10_1 : w11.frozen? ⟨go10, (x4_1 : Int).toNat * 5 + 1, none⟩ = false := hfr10 1; have hf10_2 : w11.frozen? ⟨go10, (x4_1 : Int).toNat * 5 + 2, none⟩ = false := hfr10 2; have hf10_3 : w11.frozen? ⟨go10, (x4_1 : Int).toNat * 5 + 3, none⟩ = false := hfr10 3; have hf10_4 : w11.frozen? ⟨go10, (x4_1 : Int).toNat * 5 + 4, none⟩ = false := hfr10 4; clear hcl10 hcc10 hfr10; (try clear hM10); replace p10 := eq_true p10; replace q10 := eq_true q10; have n_ := Aside0.mk (Kd.S_mono (ok' := (fun k_ => some k_ ≠ (v335 : Value).ownBlock ∧ some k_ ≠ (v339 : Value).ownBlock)) HO_3.out (fun k_ hk => ⟨hk.1.2, hk.2⟩)); clear HO_3; have HO_3 := n_; clear n_; have HX12 := Aside0.mk (show Kd.S k55 55 w11 w.heap.size (fun k_ => ((fun _ => True)) k_ ∧ ¬ ((fun k_ => some k_ = (v335 : Value).ownBlock ∨ some k_ = (v339 : Value).ownBlock)) k_) (.slice (some ⟨go10, 0, none⟩) x3_1.length co10) x3_1 from (by (with_reducible repeat (first | apply Kd.S_alloc | apply Kd.S_drewN | apply Kd.S_drew)); exact Kd.S_mono HO_3.out (fun k_ hk => ⟨trivial, fun e_ => e_.elim (fun h_ => hk.1 h_) (fun h_ => hk.2 h_)⟩))); obtain ⟨oki12, ce12, hcl12, hM12, hcc12, hfr12, hoki12, hH12⟩ := Kd.S_elem HX12.out z55 (x4_1 : Int) (dA_) (by have h_ : (x4_1 : Int) < ((x3_1.length : Int) : Int) := dA_; first | exact h_ | (have e_ := (Kd.S_reads' HO_3.out).1; omega) | simpa using h_); obtain ⟨ve12_2, ve12_4, rfl, ge12_2, ge12_4⟩ := k55_openM hM12; have HP12 := Kd.S_seg hH12 (dA_) (by have h_ : (x4_1 : Int) < ((x3_1.length : Int) : Int) := dA_; first | exact h_ | (have e_ := (Kd.S_reads' HO_3.out).1; omega) | simpa using h_) (seg := [.string t332, .string t333, v335, .string t337, v339]) (j := 0) (show 5 ≤ 5 from by decide) (x' := (⟨t332, t333, t334, t337, t338⟩ : S55)) (k55_mkM _ _ _ (⟨t332, t333, t334, t337, t338⟩ : S55) (Kd.R_mono (Kd.R_tight rfl (Kd.R_mono (ok' := fun k_ => ((fun _ => True)) k_ ∧ k_ ≠ go10) (Kd.R_apart' (HO336.out) (Kd.S_typed HO_3.out) (by decide)) (fun k_ hk => ⟨trivial, fun e_ => (hk.2) (by rw [e_]; rfl)⟩))) (fun _ h_ => Or.inr (Or.inl h_))) (Kd.R_mono (Kd.R_tight rfl (Kd.R_mono (ok' := fun k_ => ((fun _ => True)) k_ ∧ k_ ≠ go10) (Kd.R_apart' (HO340.out) (Kd.S_typed HO_3.out) (by decide)) (fun k_ hk => ⟨trivial, fun e_ => (hk.2) (by rw [e_]; rfl)⟩))) (fun _ h_ => Or.inr (Or.inr (h_))))) (fun _ hk => hk) (fun k_ hk_ => hk_.elim (fun h_ => ((Kd.R_mono (ok' := fun k_ => ((fun _ => True)) k_ ∧ k_ ≠ go10) (Kd.R_apart' (HO336.out) (Kd.S_typed HO_3.out) (by decide)) (fun k_ hk => ⟨trivial, fun e_ => (hk.2) (by rw [e_]; rfl)⟩))).1 k_ h_.symm) (fun h_ => ((Kd.R_mono (ok' := fun k_ => ((fun _ => True)) k_ ∧ k_ ≠ go10) (Kd.R_apart' (HO340.out) (Kd.S_typed HO_3.out) (by decide)) (fun k_ hk => ⟨trivial, fun e_ => (hk.2) (by rw [e_]; rfl)⟩))).1 k_ h_.symm)); have hx12_0 := hcc12 0 _ rfl; (try simp only [show (k55).sz = 5 from rfl, Nat.mul_one, Nat.add_zero] at hx12_0); have hf12_0 := hfr12 0; (try simp only [show (k55).sz = 5 from rfl, Nat.mul_one, Nat.add_zero] at hf12_0); have hx12_1 := hcc12 1 _ rfl; (try simp only [show (k55).sz = 5 from rfl, Nat.mul_one, Nat.add_zero] at hx12_1); have hf12_1 := hfr12 1; (try simp only [show (k55).sz = 5 from rfl, Nat.mul_one, Nat.add_zero] at hf12_1); have hx12_2 := hcc12 2 _ rfl; (try simp only [show (k55).sz = 5 from rfl, Nat.mul_one, Nat.add_zero] at hx12_2); have hf12_2 := hfr12 2; (try simp only [show (k55).sz = 5 from rfl, Nat.mul_one, Nat.add_zero] at hf12_2); have hx12_3 := hcc12 3 _ rfl; (try simp only [show (k55).sz = 5 from rfl, Nat.mul_one, Nat.add_zero] at hx12_3); have hf12_3 := hfr12 3; (try simp only [show (k55).sz = 5 from rfl, Nat.mul_one, Nat.add_zero] at hf12_3); have hx12_4 := hcc12 4 _ rfl; (try simp only [show (k55).sz = 5 from rfl, Nat.mul_one, Nat.add_zero] at hx12_4); have hf12_4 := hfr12 4; (try simp only [show (k55).sz = 5 from rfl, Nat.mul_one, Nat.add_zero] at hf12_4); clear hcl12 hcc12 hfr12 hoki12 hH12; (try clear hM12)) | ((with_reducible refine gate_store (t := 55) (p := 21) rfl ?_); refine store_event (t := 55) (p := 21) (v := ?vo_w13) (w1 := (((((w11.setCell ⟨go10, (x4_1 : Int).toNat * 5, none⟩ (.string t332)).setCell ⟨go10, (x4_1 : Int).toNat * 5 + 1, none⟩ (.string t333)).setCell ⟨go10, (x4_1 : Int).toNat * 5 + 2, none⟩ (v335)).setCell ⟨go10, (x4_1 : Int).toNat * 5 + 3, none⟩ (.string t337)).setCell ⟨go10, (x4_1 : Int).toNat * 5 + 4, none⟩ (v339))) ?hg ?ho ?hn ?hr ?_; (case ho => rfl); (case hg => rfl); (case hn => rfl); (case hr => first | (go_simp; done) | (go_simp; rfl) | (obtain ⟨As_, cs_, es_⟩ := Kd.R_slice HO336.out; (cases es_); first | (go_simp; done) | (go_simp; rfl)) | (obtain ⟨As_, cs_, es_⟩ := Kd.R_slice HO340.out; (cases es_); first | (go_simp; done) | (go_simp; rfl)) | (obtain ⟨As0_, cs0_, es0_⟩ := Kd.R_slice HO336.out; (cases es0_); obtain ⟨As1_, cs1_, es1_⟩ := Kd.R_slice HO340.out; (cases es1_); first | (go_simp; done) | (go_simp; rfl))); intro w13 hw; have hg : w11.grownBy w13 (some go10) := (by rw [hw]; exact HP12.2); have hp_ : Kd.S k55 55 w13 w.heap.size (fun _ => True) (.slice (some ⟨go10, 0, none⟩) x3_1.length co10) y341 := (by rw [hw, Ny341.out]; exact HP12.1); clear HP12; replace HO_3 := Aside0.mk (hp_); replace HB := Aside0.mk ((by rw [hw]; exact below_set (below_set (below_set (below_set (below_set (HB.out) GB10.out) GB10.out) GB10.out) GB10.out) GB10.out : Below w.heap.size w w13)); clear HO336 HO340; clear hg hw hp_))
       go_roundg k1
       case measure => have := HK1.out; omega
       case rel => exact ⟨(y341), (wrap64 (x4_1 + 1)), (by first | rfl | (simp; done) | (simp [*]; done)), H', ⟨by have := HK1.out; omega⟩, ⟨ks_ HO_3⟩, ⟨bw_ HB⟩⟩}
       {
       rw [if_neg c9] at H
       exact absurd H (by simp)}}
       {
       rw [if_neg c7] at H
       exact absurd H (by simp)}}
       {
       rw [if_neg c6] at H
       have c6b0 := decide_eq_false c6
       (try (have c6b0' := c6b0; simp only [hl331_4] at c6b0'))
       clear c6
       obtain rfl := Option.some.inj H
       go_wp2
       go_ret
       exact ⟨_, eR_, ks_ HO_3, bw_ HB⟩}}
 {
 rw [if_neg c3] at H
 exact absurd H (by simp)}}
 {
 rw [if_neg c2] at H
 exact absurd H (by simp)
}
def spec_TreeSum.f (k : Nat) (l0 : List (S57)) : Option (ByteArray) := (spec_TreeOk.f k l0).bind fun t205 => (if t205 = true then ((spec_PackTree.f k l0).bind fun t206 => ((spec_Sum.f k t206).bind fun t209 => ((spec_Word32.f k t209).bind fun t210 => (some t210)))) else (some (⟨#[]⟩ : ByteArray)))
theorem spec_TreeSum.calls (k : Nat) (A0 : Option Addr) (c0 : Nat) (l0 : List (S57)) (r : ByteArray) (w : World) (hr0 : Kd.C k57 w A0 l0.length l0) (hc0 : l0.length ≤ c0) (h : spec_TreeSum.f k l0 = some r) :
 Calls Tryz.prog 73 #[.slice A0 l0.length c0] w fun e w' => e = .returned (.string r) ∧ Below w.heap.size w w' := by
 have HR0 := Aside0.mk hr0
 have HC0 := Aside0.mk hc0
 clear hr0 hc0
 have HB := Aside0.mk (Below.refl w.heap.size w)
 have H : ((spec_TreeOk.f k l0).bind fun t205 => (if t205 = true then ((spec_PackTree.f k l0).bind fun t206 => ((spec_Sum.f k t206).bind fun t209 => ((spec_Word32.f k t209).bind fun t210 => (some t210)))) else (some (⟨#[]⟩ : ByteArray)))) = some r := h
 clear h
 replace H := Option.bind_eq_some_iff.mp H
 obtain ⟨t205, A20, H⟩ := H
 have A2 := Aside0.mk A20
 clear A20
 by_cases c3 : t205 = true
 {
 subst c3
 rw [if_pos rfl] at H
 replace H := Option.bind_eq_some_iff.mp H
 obtain ⟨t206, A40, H⟩ := H
 have A4 := Aside0.mk A40
 clear A40
 replace H := Option.bind_eq_some_iff.mp H
 obtain ⟨t209, A50, H⟩ := H
 have A5 := Aside0.mk A50
 clear A50
 replace H := Option.bind_eq_some_iff.mp H
 obtain ⟨t210, A60, H⟩ := H
 have A6 := Aside0.mk A60
 clear A60
 obtain rfl := Option.some.inj H
 go_enter Tryz.func73, Tryz.ntmps73
 go_wp2_with (first | ((with_reducible refine gate_callee (f := 44) rfl ?_); refine gL_ (some 4) Tryz.func44 #[.slice A0 l0.length c0] ?_; (with_reducible refine (spec_TreeOk.calls k _ _ l0 true _ ?side1 ?side2 A2.out).mono ?_); (case side1 => repeat (first | exact HR0.out | (with_reducible refine Kd.C_alloc ?_ _) | (with_reducible refine Kd.C_drewN ?_ _) | (with_reducible refine Kd.C_drew ?_))); (case side2 => exact HC0.out); rintro e w7 ⟨rfl, hb⟩; refine ⟨_, rfl, ?_⟩; replace HB := Aside0.mk (below_step (bw_ HB) hb); clear hb) | ((with_reducible refine gate_callee (f := 93) rfl ?_); refine gL_ (some 7) Tryz.func93 #[.slice A0 l0.length c0] ?_; (with_reducible refine (spec_PackTree.calls k _ _ l0 t206 _ ?side1 ?side2 A4.out).mono ?_); (case side1 => exact cS_ HR0 HB); (case side2 => exact HC0.out); rintro e w8 ⟨v207, rfl, ho0, hb⟩; refine ⟨_, rfl, ?_⟩; have HO208 := Aside0.mk (Kd.R_lower ho0 (below_size (bw_ HB))); replace HB := Aside0.mk (below_step (bw_ HB) hb); clear hb; (try clear ho0); obtain ⟨Ao9, co9, eo9⟩ := Kd.R_slice HO208.out; subst eo9) | ((with_reducible refine gate_callee (f := 92) rfl ?_); refine gL_ (some 8) Tryz.func92 #[.slice Ao9 t206.length co9] ?_; (with_reducible refine (spec_Sum.calls k _ _ t206 t209 _ ?side1 ?side2 A5.out).mono ?_); (case side1 => repeat (first | exact (Kd.R_reads' HO208.out).2.2 | (with_reducible refine Kd.C_alloc ?_ _) | (with_reducible refine Kd.C_drewN ?_ _) | (with_reducible refine Kd.C_drew ?_))); (case side2 => exact (Kd.R_reads' HO208.out).2.1); rintro e w' ⟨rfl, ⟨nd, rfl⟩⟩; refine ⟨_, rfl, ?_⟩) | ((with_reducible refine gate_callee (f := 91) rfl ?_); refine gL_ (some 9) Tryz.func91 #[.int .u64 t209] ?_; (with_reducible refine (spec_Word32.calls k t209 t210 _ A6.out).mono ?_); rintro e w10 ⟨rfl, hb⟩; refine ⟨_, rfl, ?_⟩; replace HO208 := Aside0.mk (Kd.R_below (kr_ HO208) hb); replace HB := Aside0.mk (below_step (bw_ HB) hb); clear hb))
 go_ret
 exact ⟨eR_, bw_ HB⟩}
 {
 replace c3 := Bool.eq_false_iff.mpr c3
 subst c3
 rw [if_neg (show ¬ (false = true) by decide)] at H
 obtain rfl := Option.some.inj H
 go_enter Tryz.func73, Tryz.ntmps73
 go_wp2_with (first | ((with_reducible refine gate_callee (f := 44) rfl ?_); refine gL_ (some 4) Tryz.func44 #[.slice A0 l0.length c0] ?_; (with_reducible refine (spec_TreeOk.calls k _ _ l0 false _ ?side1 ?side2 A2.out).mono ?_); (case side1 => repeat (first | exact HR0.out | (with_reducible refine Kd.C_alloc ?_ _) | (with_reducible refine Kd.C_drewN ?_ _) | (with_reducible refine Kd.C_drew ?_))); (case side2 => exact HC0.out); rintro e w11 ⟨rfl, hb⟩; refine ⟨_, rfl, ?_⟩; replace HB := Aside0.mk (below_step (bw_ HB) hb); clear hb))
 go_ret
 exact ⟨eR_, bw_ HB⟩
}
def impl_sameTexts.l0 : Nat → List ByteArray → List ByteArray → Int → Int → Option (Bool)
 | 0, _, _, _, _ => none
 | k + 1, x0, x1, x12, x13 => if x13 < x12 then (if 0 ≤ x13 then (if x13 < (x0.length : Int) then (if x13 < (x1.length : Int) then (if (rdOf ByteArray.empty x0 x13).toList = (rdOf ByteArray.empty x1 x13).toList then (impl_sameTexts.l0 k x0 x1 x12 (wrap64 (x13 + 1))) else (some false)) else (none)) else (none)) else (none)) else (some true)
def impl_sameTexts.f (k : Nat) (l0 : List ByteArray) (l1 : List ByteArray) : Option (Bool) := if (l0.length : Int) = (l1.length : Int) then (impl_sameTexts.l0 k l0 l1 (l0.length : Int) 0) else (some false)
theorem impl_sameTexts.mono_l : ∀ k, (∀ y0 y1 y2 y3, LeO (impl_sameTexts.l0 k y0 y1 y2 y3) (impl_sameTexts.l0 (k + 1) y0 y1 y2 y3))
 | 0 => fun _ _ _ _ r h => by simp [impl_sameTexts.l0] at h
 | k + 1 => by
      have ih0 := impl_sameTexts.mono_l k
      {
      intro y0 y1 y2 y3
      unfold impl_sameTexts.l0
      repeat' first
      | (with_reducible exact ih0 _ _ _ _)
      | (with_reducible exact LeO.refl _)
      | (with_reducible exact LeO.none _)
      | (with_reducible refine LeO.ite ?_ ?_)
      | (with_reducible refine LeO.bind ?_ (fun _ => ?_))
      | exact ih0 _ _ _ _
      | exact LeO.none _
      | refine LeO.ite ?_ ?_
      | refine LeO.bind ?_ (fun _ => ?_)}
theorem impl_sameTexts.mono : ∀ a0 a1 k, LeO (impl_sameTexts.f k a0 a1) (impl_sameTexts.f (k + 1) a0 a1) := by
 intro a0 a1 k
 have ih0 := impl_sameTexts.mono_l k
 unfold impl_sameTexts.f
 repeat' first
  | (with_reducible exact ih0 _ _ _ _)
  | (with_reducible exact LeO.refl _)
  | (with_reducible exact LeO.none _)
  | (with_reducible refine LeO.ite ?_ ?_)
  | (with_reducible refine LeO.bind ?_ (fun _ => ?_))
  | exact ih0 _ _ _ _
  | exact LeO.none _
  | refine LeO.ite ?_ ?_
  | refine LeO.bind ?_ (fun _ => ?_)
theorem impl_sameTexts.calls (k : Nat) (A0 : Option Addr) (c0 : Nat) (l0 : List ByteArray) (A1 : Option Addr) (c1 : Nat) (l1 : List ByteArray) (r : Bool) (w : World) (hr0 : Kd.C Kd.string w A0 l0.length l0) (hc0 : l0.length ≤ c0) (hr1 : Kd.C Kd.string w A1 l1.length l1) (hc1 : l1.length ≤ c1) (h : impl_sameTexts.f k l0 l1 = some r) :
 Calls Tryz.prog 85 #[.slice A0 l0.length c0, .slice A1 l1.length c1] w fun e w' => e = .returned (.bool r) ∧ Drawn0 w w' := by
 have HR0 := Aside0.mk hr0
 have HC0 := Aside0.mk hc0
 clear hr0 hc0
 have HR1 := Aside0.mk hr1
 have HC1 := Aside0.mk hc1
 clear hr1 hc1
 have H : (if (l0.length : Int) = (l1.length : Int) then (impl_sameTexts.l0 k l0 l1 (l0.length : Int) 0) else (some false)) = some r := h
 clear h
 by_cases c3 : (l0.length : Int) = (l1.length : Int)
 {
 rw [if_pos c3] at H
 have c3b0 : ((l0.length : Int) == (l1.length : Int)) = true := beq_iff_eq.mpr c3
 have c3b1 : ((l0.length : Int) != (l1.length : Int)) = false := bne_eq_false_iff_eq.mpr c3
 have c3b2 : (l0.length == l1.length) = true := by first | simpa using c3 | (simp at c3 ⊢; omega)
 clear c3
 have H' := Aside0.mk H
 clear H
 go_enter Tryz.func85, Tryz.ntmps85
 go_wp2
 repeat (go_quiet (fail); try go_wp2)
 go_loopg [13] k (fun kq v13 w' => ∃ (x13_1 : Int), v13 = .int .i64 x13_1 ∧ Aside0 (impl_sameTexts.l0 kq l0 l1 (l0.length : Int) x13_1 = some r) ∧ Aside0 (kq ≤ k) ∧ Drawn0 w w')
 case atStart => exact ⟨(0), (by first | rfl | (simp; done) | (simp [*]; done)), H', ⟨Nat.le_refl _⟩, dR_⟩
 case round =>
  clear H'
  try clear c1
  try clear p2
  try clear c3
  try clear c3b0
  try clear c3b1
  try clear c3b2
  obtain ⟨x13_1, rfl, HA, HK1, ⟨m1, rfl⟩⟩ := hrel
  cases gk with
  | zero => exact absurd HA.out (by simp [impl_sameTexts.l0])
  | succ k1 =>
       have H := HA.out
       clear HA
       simp only [impl_sameTexts.l0] at H
       by_cases c4 : x13_1 < (l0.length : Int)
       {
       rw [if_pos c4] at H
       have c4b0 := decide_eq_true c4
       clear c4
       by_cases c5 : 0 ≤ x13_1
       {
       rw [if_pos c5] at H
       have c5b0 := decide_eq_true c5
       clear c5
       by_cases c6 : x13_1 < (l0.length : Int)
       {
       rw [if_pos c6] at H
       have c6b0 := decide_eq_true c6
       clear c6
       by_cases c7 : x13_1 < (l1.length : Int)
       {
       rw [if_pos c7] at H
       have c7b0 := decide_eq_true c7
       clear c7
       by_cases c8 : (rdOf ByteArray.empty l0 x13_1).toList = (rdOf ByteArray.empty l1 x13_1).toList
       {
       rw [if_pos c8] at H
       have c8b0 : ((rdOf ByteArray.empty l0 x13_1).toList == (rdOf ByteArray.empty l1 x13_1).toList) = true := beq_iff_eq.mpr c8
       have c8b1 : ((rdOf ByteArray.empty l0 x13_1).toList != (rdOf ByteArray.empty l1 x13_1).toList) = false := bne_eq_false_iff_eq.mpr c8
       clear c8
       have H' := Aside0.mk H
       clear H
       have p446 : 0 ≤ (x13_1 : Int) := dA_
       have q446 : x13_1 < (l0.length : Int) := dA_
       obtain ⟨ad446, e446, hx446_0⟩ := Kd.at_string HR0.out x13_1 p446 q446
       cases e446
       replace p446 := eq_true p446
       replace q446 := eq_true q446
       have p447 : 0 ≤ (x13_1 : Int) := dA_
       have q447 : x13_1 < (l1.length : Int) := dA_
       obtain ⟨ad447, e447, hx447_0⟩ := Kd.at_string HR1.out x13_1 p447 q447
       cases e447
       replace p447 := eq_true p447
       replace q447 := eq_true q447
       go_wp2
       repeat (go_quiet (fail); try go_wp2)
       go_roundg k1
       case measure => have := HK1.out; omega
       case rel => exact ⟨(wrap64 (x13_1 + 1)), (by first | rfl | (simp; done) | (simp [*]; done)), H', ⟨by have := HK1.out; omega⟩, dR_⟩}
       {
       rw [if_neg c8] at H
       have c8b0 : ((rdOf ByteArray.empty l0 x13_1).toList == (rdOf ByteArray.empty l1 x13_1).toList) = false := beq_eq_false_iff_ne.mpr c8
       have c8b1 : ((rdOf ByteArray.empty l0 x13_1).toList != (rdOf ByteArray.empty l1 x13_1).toList) = true := bne_iff_ne.mpr c8
       obtain rfl := Option.some.inj H
       have p446 : 0 ≤ (x13_1 : Int) := dA_
       have q446 : x13_1 < (l0.length : Int) := dA_
       obtain ⟨ad446, e446, hx446_0⟩ := Kd.at_string HR0.out x13_1 p446 q446
       cases e446
       replace p446 := eq_true p446
       replace q446 := eq_true q446
       have p447 : 0 ≤ (x13_1 : Int) := dA_
       have q447 : x13_1 < (l1.length : Int) := dA_
       obtain ⟨ad447, e447, hx447_0⟩ := Kd.at_string HR1.out x13_1 p447 q447
       cases e447
       replace p447 := eq_true p447
       replace q447 := eq_true q447
       go_wp2
       repeat (go_quiet (fail); try go_wp2)
       go_ret
       exact ⟨eS_, dR_⟩}}
       {
       rw [if_neg c7] at H
       exact absurd H (by simp)}}
       {
       rw [if_neg c6] at H
       exact absurd H (by simp)}}
       {
       rw [if_neg c5] at H
       exact absurd H (by simp)}}
       {
       rw [if_neg c4] at H
       have c4b0 := decide_eq_false c4
       clear c4
       obtain rfl := Option.some.inj H
       go_wp2
       repeat (go_quiet (fail); try go_wp2)
       go_ret
       exact ⟨eS_, dR_⟩}}
 {
 rw [if_neg c3] at H
 have c3b0 : ((l0.length : Int) == (l1.length : Int)) = false := beq_eq_false_iff_ne.mpr c3
 have c3b1 : ((l0.length : Int) != (l1.length : Int)) = true := bne_iff_ne.mpr c3
 have c3b2 : (l0.length == l1.length) = false := by first | simpa using c3 | (simp at c3 ⊢; omega)
 obtain rfl := Option.some.inj H
 go_enter Tryz.func85, Tryz.ntmps85
 go_wp2
 repeat (go_quiet (fail); try go_wp2)
 go_ret
 exact ⟨eS_, dR_⟩
}
def impl_itemOk.f (k : Nat) (a0_0 : ByteArray) (a0_1 : ByteArray) (l0_2 : List ByteArray) (a0_3 : ByteArray) (l0_4 : List (S57)) (l1 : List ByteArray) : Option (Bool) := (impl_AddressOk.f k a0_0).bind fun t449 => (if t449 = true then ((impl_TreeOk.f k l0_4).bind fun t450 => (if t450 = true then ((impl_TreeSum.f k l0_4).bind fun t451 => (if a0_1.toList = t451.toList then ((impl_RefsIn.f k l0_4 l1).bind fun t452 => ((impl_sameTexts.f k l0_2 t452).bind fun t455 => (if t455 = true then (if a0_3.toList = ([] : List UInt8) then (some true) else ((impl_AddressOk.f k a0_3).bind fun t456 => (some t456))) else (some false)))) else (some false))) else (some false))) else (some false))
theorem impl_itemOk.mono : ∀ a0 a1 a2 a3 a4 a5 k, LeO (impl_itemOk.f k a0 a1 a2 a3 a4 a5) (impl_itemOk.f (k + 1) a0 a1 a2 a3 a4 a5) := by
 intro a0 a1 a2 a3 a4 a5 k
 unfold impl_itemOk.f
 repeat' first
  | (with_reducible exact impl_AddressOk.mono _ _)
  | (with_reducible exact impl_RefsIn.mono _ _ _)
  | (with_reducible exact impl_TreeOk.mono _ _)
  | (with_reducible exact impl_TreeSum.mono _ _)
  | (with_reducible exact impl_sameTexts.mono _ _ _)
  | (with_reducible exact LeO.refl _)
  | (with_reducible exact LeO.none _)
  | (with_reducible refine LeO.ite ?_ ?_)
  | (with_reducible refine LeO.bind ?_ (fun _ => ?_))
  | exact impl_AddressOk.mono _ _
  | exact impl_RefsIn.mono _ _ _
  | exact impl_TreeOk.mono _ _
  | exact impl_TreeSum.mono _ _
  | exact impl_sameTexts.mono _ _ _
  | exact LeO.none _
  | refine LeO.ite ?_ ?_
  | refine LeO.bind ?_ (fun _ => ?_)
def impl_itemOk.T1 : Bool × List (List Nat × List Nat) := (true, [([], []), ([0], [0]), ([1], [1]), ([2, 2], [2]), ([3], [3]), ([4, 3], [3, 4]), ([5, 3, 3], [3, 5]), ([3, 6], [3, 6]), ([7, 6], [7]), ([8], [8]), ([9, 8], [8, 9]), ([8], [8]), ([11, 8], [8, 11]), ([12, 8, 8], [8, 12]), ([10, 13, 8], [8, 10, 13]), ([8, 14], [8, 14]), ([15, 13], [15]), ([16], [16]), ([17, 16], [16, 17]), ([16], [16]), ([19, 16], [16, 19]), ([16], [16]), ([20, 21, 16, 16], [16, 20, 21]), ([18, 22, 22, 16], [16, 18, 22]), ([16, 23], [16, 23]), ([24, 23], [24]), ([25], [25]), ([26, 25], [25, 26]), ([27, 25], [25, 27]), ([28, 25, 25], [25, 28]), ([29], [29]), ([30, 29], [29, 30]), ([31, 29, 29], [29, 31]), ([29, 32, 25], [25, 29, 32]), ([25, 33], [25, 33]), ([34, 32, 0, 1, 2, 3, 4, 5, 6, 7, 8, 9, 10, 11, 12, 13, 14, 15, 16, 17, 18, 19, 20, 21, 22, 23, 24, 25, 26, 27, 28, 29, 30, 31, 32, 33, 34], [34])])
def impl_itemOk.B1 : List Nat := [0, 1, 3, 7, 15, 31, 63, 127, 255, 511, 1023, 511, 2559, 6655, 16383, 32767, 65535, 131071, 262143, 131071, 655359, 131071, 3801087, 8388607, 16777215, 33554431, 67108863, 134217727, 268435455, 536870911, 1073741823, 2147483647, 4294967295, 8589934591, 17179869183, 34359738367]
theorem impl_itemOk.tab1 : rtab .any (opsOf Tryz.f66 1) = impl_itemOk.T1 := by kernel_rfl
theorem impl_itemOk.bits1 : waitsOk impl_itemOk.T1.2 impl_itemOk.B1 = true := by kernel_rfl
theorem impl_itemOk.calls (k : Nat) (a0_0 : ByteArray) (a0_1 : ByteArray) (A0_2 : Option Addr) (c0_2 : Nat) (l0_2 : List ByteArray) (a0_3 : ByteArray) (A0_4 : Option Addr) (c0_4 : Nat) (l0_4 : List (S57)) (A1 : Option Addr) (c1 : Nat) (l1 : List ByteArray) (r : Bool) (w : World) (hE : EnvW w) (hr0_2 : Kd.C Kd.string w A0_2 l0_2.length l0_2) (hc0_2 : l0_2.length ≤ c0_2) (hr0_4 : Kd.C k57 w A0_4 l0_4.length l0_4) (hc0_4 : l0_4.length ≤ c0_4) (hr1 : Kd.C Kd.string w A1 l1.length l1) (hc1 : l1.length ≤ c1) (h : impl_itemOk.f k a0_0 a0_1 l0_2 a0_3 l0_4 l1 = some r) :
 Calls Tryz.prog 66 #[.agg #[.string a0_0, .string a0_1, .slice A0_2 l0_2.length c0_2, .string a0_3, .slice A0_4 l0_4.length c0_4], .slice A1 l1.length c1] w fun e w' => e = .returned (.bool r) ∧ Below w.heap.size w w' := by
 have hu55 := Tryz.underlying55
 have HE := Aside0.mk hE
 clear hE
 have HR0_2 := Aside0.mk hr0_2
 have HC0_2 := Aside0.mk hc0_2
 clear hr0_2 hc0_2
 have HR0_4 := Aside0.mk hr0_4
 have HC0_4 := Aside0.mk hc0_4
 clear hr0_4 hc0_4
 have HR1 := Aside0.mk hr1
 have HC1 := Aside0.mk hc1
 clear hr1 hc1
 have HB := Aside0.mk (Below.refl w.heap.size w)
 have H : ((impl_AddressOk.f k a0_0).bind fun t449 => (if t449 = true then ((impl_TreeOk.f k l0_4).bind fun t450 => (if t450 = true then ((impl_TreeSum.f k l0_4).bind fun t451 => (if a0_1.toList = t451.toList then ((impl_RefsIn.f k l0_4 l1).bind fun t452 => ((impl_sameTexts.f k l0_2 t452).bind fun t455 => (if t455 = true then (if a0_3.toList = ([] : List UInt8) then (some true) else ((impl_AddressOk.f k a0_3).bind fun t456 => (some t456))) else (some false)))) else (some false))) else (some false))) else (some false))) = some r := h
 clear h
 replace H := Option.bind_eq_some_iff.mp H
 obtain ⟨t449, A30, H⟩ := H
 have A3 := Aside0.mk A30
 clear A30
 by_cases c4 : t449 = true
 {
 subst c4
 rw [if_pos rfl] at H
 replace H := Option.bind_eq_some_iff.mp H
 obtain ⟨t450, A50, H⟩ := H
 have A5 := Aside0.mk A50
 clear A50
 by_cases c6 : t450 = true
 {
 subst c6
 rw [if_pos rfl] at H
 replace H := Option.bind_eq_some_iff.mp H
 obtain ⟨t451, A70, H⟩ := H
 have A7 := Aside0.mk A70
 clear A70
 by_cases c8 : a0_1.toList = t451.toList
 {
 rw [if_pos c8] at H
 have c8b0 : (a0_1.toList == t451.toList) = true := beq_iff_eq.mpr c8
 have c8b1 : (a0_1.toList != t451.toList) = false := bne_eq_false_iff_eq.mpr c8
 clear c8
 replace H := Option.bind_eq_some_iff.mp H
 obtain ⟨t452, A90, H⟩ := H
 have A9 := Aside0.mk A90
 clear A90
 replace H := Option.bind_eq_some_iff.mp H
 obtain ⟨t455, A100, H⟩ := H
 have A10 := Aside0.mk A100
 clear A100
 by_cases c11 : t455 = true
 {
 subst c11
 rw [if_pos rfl] at H
 by_cases c12 : a0_3.toList = ([] : List UInt8)
 {
 rw [if_pos c12] at H
 have c12b0 : (a0_3.toList == ([] : List UInt8)) = true := beq_iff_eq.mpr c12
 have c12b1 : (a0_3.toList != ([] : List UInt8)) = false := bne_eq_false_iff_eq.mpr c12
 clear c12
 obtain rfl := Option.some.inj H
 go_enter Tryz.func66, Tryz.ntmps66
 try go_wp2_with (first | ((with_reducible refine gate_dst (N := 2) rfl ?_); refine bE_ 2 #[.string a0_0, .string a0_1, .slice A0_2 l0_2.length c0_2, .string a0_3, .slice A0_4 l0_4.length c0_4] 55 ?_; intro gb448 hg w13 hbox hb; have BK448 := Aside0.mk (hbox); have GW448 := Aside0.mk (ge_ hg (bw_ HB)); have GE448 := Aside0.mk (ge_ hg (bw_ HB)); replace HB := Aside0.mk (below_step (bw_ HB) hb); clear hb hbox hg))
 replace BK448 := Aside0.mk (blk_drew BK448.out)
 replace HB := Aside0.mk (below_drew1 HB.out)
 refine start_ (n := 36) (S := fun w' => w'.cell? ⟨gb448, 0, none⟩ = some (.string a0_0) ∧ w'.cell? ⟨gb448, 1, none⟩ = some (.string a0_1) ∧ w'.cell? ⟨gb448, 2, none⟩ = some (.slice A0_2 l0_2.length c0_2) ∧ w'.cell? ⟨gb448, 3, none⟩ = some (.string a0_3) ∧ w'.cell? ⟨gb448, 4, none⟩ = some (.slice A0_4 l0_4.length c0_4)) (ds := []) (bs_ 36 0) (by kernel_rfl) rfl (by kernel_rfl) ⟨(blk_cell BK448.out 0).trans rfl, (blk_cell BK448.out 1).trans rfl, (blk_cell BK448.out 2).trans rfl, (blk_cell BK448.out 3).trans rfl, (blk_cell BK448.out 4).trans rfl⟩ (fun hHeld => ?_); refine with_tabW impl_itemOk.tab1 impl_itemOk.bits1 (fun HT_ HW_ => ?_)
 generalize w13.drew = w14 at BK448 HB hHeld ⊢
 refine pS_ 0 ?_
 refine t5_ 1 hHeld ?_
 refine oS_ 2 (fun K hK => ?_)
 refine gS_ Tryz.func76 #[.string a0_0] ?_
 with_reducible refine (impl_AddressOk.calls k a0_0 true _ A3.out).mono ?_
 rintro e w' ⟨rfl, ⟨nd, rfl⟩⟩
 refine ⟨_, rfl, ?_⟩
 refine hK.out _ _ ⟨(blk_cell BK448.out 0).trans rfl, (blk_cell BK448.out 1).trans rfl, (blk_cell BK448.out 2).trans rfl, (blk_cell BK448.out 3).trans rfl, (blk_cell BK448.out 4).trans rfl⟩ (fun hHeld => ?_)
 clear hK K
 refine nS_ 7 ?_
 refine pS_ 3 ?_
 refine pS_ 4 ?_
 refine t5_ 5 hHeld ?_
 refine oS_ 6 (fun K hK => ?_)
 refine gS_ Tryz.func77 #[.slice A0_4 l0_4.length c0_4] ?_
 with_reducible refine (impl_TreeOk.calls k _ _ l0_4 true _ ?side1 ?side2 ?side3 A5.out).mono ?_
 (case side1 => refine EnvW.below HE.out ?_; repeat (first | (with_reducible first | exact HB.out | apply below_alloc | apply pw_below_drewN | apply below_drew1 | refine below_set ?_ GE448.out) | exact HB.out))
 (case side2 => repeat (first | exact (Kd.C_below HR0_4.out (bw1_ HB GE448)) | (with_reducible refine Kd.C_alloc ?_ _) | (with_reducible refine Kd.C_drewN ?_ _) | (with_reducible refine Kd.C_drew ?_)))
 (case side3 => exact HC0_4.out)
 rintro e w15 ⟨rfl, hb⟩
 refine ⟨_, rfl, ?_⟩
 replace BK448 := Aside0.mk (blk_below (bk_ BK448) hb)
 replace HB := Aside0.mk (below_step (bw1_ HB GE448) hb)
 (try clear hb)
 (try clear hb2)
 (try clear hk)
 (try clear hi)
 refine hK.out _ _ ⟨(blk_cell BK448.out 0).trans rfl, (blk_cell BK448.out 1).trans rfl, (blk_cell BK448.out 2).trans rfl, (blk_cell BK448.out 3).trans rfl, (blk_cell BK448.out 4).trans rfl⟩ (fun hHeld => ?_)
 clear hK K
 refine nS_ 11 ?_
 refine pS_ 7 ?_
 refine pS_ 8 ?_
 refine pS_ 9 ?_
 refine pS_ 11 ?_
 refine t5_ 10 hHeld ?_
 refine t5_ 12 hHeld ?_
 refine oS_ 13 (fun K hK => ?_)
 refine gS_ Tryz.func50 #[.slice A0_4 l0_4.length c0_4] ?_
 with_reducible refine (impl_TreeSum.calls k _ _ l0_4 t451 _ ?side1 ?side2 ?side3 A7.out).mono ?_
 (case side1 => refine EnvW.below HE.out ?_; repeat (first | (with_reducible first | exact HB.out | apply below_alloc | apply pw_below_drewN | apply below_drew1 | refine below_set ?_ GE448.out) | exact HB.out))
 (case side2 => exact cS_ HR0_4 HB)
 (case side3 => exact HC0_4.out)
 rintro e w16 ⟨rfl, hb⟩
 refine ⟨_, rfl, ?_⟩
 replace BK448 := Aside0.mk (blk_below (bk_ BK448) hb)
 replace HB := Aside0.mk (below_step (bw1_ HB GE448) hb)
 (try clear hb)
 (try clear hb2)
 (try clear hk)
 (try clear hi)
 refine hK.out _ _ ⟨(blk_cell BK448.out 0).trans rfl, (blk_cell BK448.out 1).trans rfl, (blk_cell BK448.out 2).trans rfl, (blk_cell BK448.out 3).trans rfl, (blk_cell BK448.out 4).trans rfl⟩ (fun hHeld => ?_)
 clear hK K
 refine nS_ 18 ?_
 refine pS_ 14 ?_
 refine pS_ 15 ?_
 refine pS_ 16 ?_
 refine pS_ 17 ?_
 refine pS_ 19 ?_
 refine pS_ 21 ?_
 refine t5_ 18 hHeld ?_
 refine t5_ 20 hHeld ?_
 refine oS_ 22 (fun K hK => ?_)
 refine gS_ Tryz.func52 #[.slice A0_4 l0_4.length c0_4, .slice A1 l1.length c1] ?_
 with_reducible refine (impl_RefsIn.calls k _ _ l0_4 _ _ l1 t452 _ ?side1 ?side2 ?side3 ?side4 ?side5 A9.out).mono ?_
 (case side1 => refine EnvW.below HE.out ?_; repeat (first | (with_reducible first | exact HB.out | apply below_alloc | apply pw_below_drewN | apply below_drew1 | refine below_set ?_ GE448.out) | exact HB.out))
 (case side2 => exact cS_ HR0_4 HB)
 (case side3 => exact HC0_4.out)
 (case side4 => exact cS_ HR1 HB)
 (case side5 => exact HC1.out)
 rintro e w17 ⟨v453, rfl, ho0, hb⟩
 refine ⟨_, rfl, ?_⟩
 have HO454 := Aside0.mk (Kd.R_lower ho0 (below_size (bw1_ HB GE448)))
 replace BK448 := Aside0.mk (blk_below (bk_ BK448) hb)
 replace HB := Aside0.mk (below_step (bw1_ HB GE448) hb)
 (try clear hb)
 (try clear hb2)
 (try clear hk)
 (try clear hi)
 (try clear ho0)
 obtain ⟨Ao18, co18, eo18⟩ := Kd.R_slice HO454.out
 (first | subst eo18 | (injection eo18 with f1_ f2_ f3_; have f4_ := f1_.symm; have f5_ := f3_.symm; clear f1_ f2_ f3_; subst f4_; subst f5_))
 refine hK.out _ _ ⟨(blk_cell BK448.out 0).trans rfl, (blk_cell BK448.out 1).trans rfl, (blk_cell BK448.out 2).trans rfl, (blk_cell BK448.out 3).trans rfl, (blk_cell BK448.out 4).trans rfl⟩ (fun hHeld => ?_)
 clear hK K
 refine nS_ 27 ?_
 refine oS_ 23 (fun K hK => ?_)
 refine gS_ Tryz.func85 #[.slice A0_2 l0_2.length c0_2, .slice Ao18 t452.length co18] ?_
 with_reducible refine (impl_sameTexts.calls k _ _ l0_2 _ _ t452 true _ ?side1 ?side2 ?side3 ?side4 A10.out).mono ?_
 (case side1 => exact cS_ HR0_2 HB)
 (case side2 => exact HC0_2.out)
 (case side3 => repeat (first | exact (Kd.R_reads' HO454.out).2.2 | (with_reducible refine Kd.C_alloc ?_ _) | (with_reducible refine Kd.C_drewN ?_ _) | (with_reducible refine Kd.C_drew ?_)))
 (case side4 => exact (Kd.R_reads' HO454.out).2.1)
 rintro e w' ⟨rfl, ⟨nd, rfl⟩⟩
 refine ⟨_, rfl, ?_⟩
 refine hK.out _ _ ⟨(blk_cell BK448.out 0).trans rfl, (blk_cell BK448.out 1).trans rfl, (blk_cell BK448.out 2).trans rfl, (blk_cell BK448.out 3).trans rfl, (blk_cell BK448.out 4).trans rfl⟩ (fun hHeld => ?_)
 clear hK K
 refine nS_ 28 ?_
 refine pS_ 24 ?_
 refine pS_ 25 ?_
 refine pS_ 26 ?_
 refine t5_ 27 hHeld ?_
 refine pS_ 28 ?_
 refine pS_ 29 ?_
 refine pU_ 30 ?_
 refine pU_ 31 ?_
 refine pU_ 32 ?_
 refine pS_ 33 ?_
 refine pS_ 34 ?_
 refine pS_ 35 ?_
 refine done_ (done_of HT_.out (by kernel_rfl)) ?_
 try go_wp2
 go_ret
 exact ⟨eR_, bw1_ HB GE448⟩}
 {
 rw [if_neg c12] at H
 have c12b0 : (a0_3.toList == ([] : List UInt8)) = false := beq_eq_false_iff_ne.mpr c12
 have c12b1 : (a0_3.toList != ([] : List UInt8)) = true := bne_iff_ne.mpr c12
 replace H := Option.bind_eq_some_iff.mp H
 obtain ⟨t456, A190, H⟩ := H
 have A19 := Aside0.mk A190
 clear A190
 obtain rfl := Option.some.inj H
 go_enter Tryz.func66, Tryz.ntmps66
 try go_wp2_with (first | ((with_reducible refine gate_dst (N := 2) rfl ?_); refine bE_ 2 #[.string a0_0, .string a0_1, .slice A0_2 l0_2.length c0_2, .string a0_3, .slice A0_4 l0_4.length c0_4] 55 ?_; intro gb448 hg w20 hbox hb; have BK448 := Aside0.mk (hbox); have GW448 := Aside0.mk (ge_ hg (bw_ HB)); have GE448 := Aside0.mk (ge_ hg (bw_ HB)); replace HB := Aside0.mk (below_step (bw_ HB) hb); clear hb hbox hg))
 replace BK448 := Aside0.mk (blk_drew BK448.out)
 replace HB := Aside0.mk (below_drew1 HB.out)
 refine start_ (n := 36) (S := fun w' => w'.cell? ⟨gb448, 0, none⟩ = some (.string a0_0) ∧ w'.cell? ⟨gb448, 1, none⟩ = some (.string a0_1) ∧ w'.cell? ⟨gb448, 2, none⟩ = some (.slice A0_2 l0_2.length c0_2) ∧ w'.cell? ⟨gb448, 3, none⟩ = some (.string a0_3) ∧ w'.cell? ⟨gb448, 4, none⟩ = some (.slice A0_4 l0_4.length c0_4)) (ds := []) (bs_ 36 0) (by kernel_rfl) rfl (by kernel_rfl) ⟨(blk_cell BK448.out 0).trans rfl, (blk_cell BK448.out 1).trans rfl, (blk_cell BK448.out 2).trans rfl, (blk_cell BK448.out 3).trans rfl, (blk_cell BK448.out 4).trans rfl⟩ (fun hHeld => ?_); refine with_tabW impl_itemOk.tab1 impl_itemOk.bits1 (fun HT_ HW_ => ?_)
 generalize w20.drew = w21 at BK448 HB hHeld ⊢
 refine pS_ 0 ?_
 refine t5_ 1 hHeld ?_
 refine oS_ 2 (fun K hK => ?_)
 refine gS_ Tryz.func76 #[.string a0_0] ?_
 with_reducible refine (impl_AddressOk.calls k a0_0 true _ A3.out).mono ?_
 rintro e w' ⟨rfl, ⟨nd, rfl⟩⟩
 refine ⟨_, rfl, ?_⟩
 refine hK.out _ _ ⟨(blk_cell BK448.out 0).trans rfl, (blk_cell BK448.out 1).trans rfl, (blk_cell BK448.out 2).trans rfl, (blk_cell BK448.out 3).trans rfl, (blk_cell BK448.out 4).trans rfl⟩ (fun hHeld => ?_)
 clear hK K
 refine nS_ 7 ?_
 refine pS_ 3 ?_
 refine pS_ 4 ?_
 refine t5_ 5 hHeld ?_
 refine oS_ 6 (fun K hK => ?_)
 refine gS_ Tryz.func77 #[.slice A0_4 l0_4.length c0_4] ?_
 with_reducible refine (impl_TreeOk.calls k _ _ l0_4 true _ ?side1 ?side2 ?side3 A5.out).mono ?_
 (case side1 => refine EnvW.below HE.out ?_; repeat (first | (with_reducible first | exact HB.out | apply below_alloc | apply pw_below_drewN | apply below_drew1 | refine below_set ?_ GE448.out) | exact HB.out))
 (case side2 => repeat (first | exact (Kd.C_below HR0_4.out (bw1_ HB GE448)) | (with_reducible refine Kd.C_alloc ?_ _) | (with_reducible refine Kd.C_drewN ?_ _) | (with_reducible refine Kd.C_drew ?_)))
 (case side3 => exact HC0_4.out)
 rintro e w22 ⟨rfl, hb⟩
 refine ⟨_, rfl, ?_⟩
 replace BK448 := Aside0.mk (blk_below (bk_ BK448) hb)
 replace HB := Aside0.mk (below_step (bw1_ HB GE448) hb)
 (try clear hb)
 (try clear hb2)
 (try clear hk)
 (try clear hi)
 refine hK.out _ _ ⟨(blk_cell BK448.out 0).trans rfl, (blk_cell BK448.out 1).trans rfl, (blk_cell BK448.out 2).trans rfl, (blk_cell BK448.out 3).trans rfl, (blk_cell BK448.out 4).trans rfl⟩ (fun hHeld => ?_)
 clear hK K
 refine nS_ 11 ?_
 refine pS_ 7 ?_
 refine pS_ 8 ?_
 refine pS_ 9 ?_
 refine pS_ 11 ?_
 refine t5_ 10 hHeld ?_
 refine t5_ 12 hHeld ?_
 refine oS_ 13 (fun K hK => ?_)
 refine gS_ Tryz.func50 #[.slice A0_4 l0_4.length c0_4] ?_
 with_reducible refine (impl_TreeSum.calls k _ _ l0_4 t451 _ ?side1 ?side2 ?side3 A7.out).mono ?_
 (case side1 => refine EnvW.below HE.out ?_; repeat (first | (with_reducible first | exact HB.out | apply below_alloc | apply pw_below_drewN | apply below_drew1 | refine below_set ?_ GE448.out) | exact HB.out))
 (case side2 => exact cS_ HR0_4 HB)
 (case side3 => exact HC0_4.out)
 rintro e w23 ⟨rfl, hb⟩
 refine ⟨_, rfl, ?_⟩
 replace BK448 := Aside0.mk (blk_below (bk_ BK448) hb)
 replace HB := Aside0.mk (below_step (bw1_ HB GE448) hb)
 (try clear hb)
 (try clear hb2)
 (try clear hk)
 (try clear hi)
 refine hK.out _ _ ⟨(blk_cell BK448.out 0).trans rfl, (blk_cell BK448.out 1).trans rfl, (blk_cell BK448.out 2).trans rfl, (blk_cell BK448.out 3).trans rfl, (blk_cell BK448.out 4).trans rfl⟩ (fun hHeld => ?_)
 clear hK K
 refine nS_ 18 ?_
 refine pS_ 14 ?_
 refine pS_ 15 ?_
 refine pS_ 16 ?_
 refine pS_ 17 ?_
 refine pS_ 19 ?_
 refine pS_ 21 ?_
 refine t5_ 18 hHeld ?_
 refine t5_ 20 hHeld ?_
 refine oS_ 22 (fun K hK => ?_)
 refine gS_ Tryz.func52 #[.slice A0_4 l0_4.length c0_4, .slice A1 l1.length c1] ?_
 with_reducible refine (impl_RefsIn.calls k _ _ l0_4 _ _ l1 t452 _ ?side1 ?side2 ?side3 ?side4 ?side5 A9.out).mono ?_
 (case side1 => refine EnvW.below HE.out ?_; repeat (first | (with_reducible first | exact HB.out | apply below_alloc | apply pw_below_drewN | apply below_drew1 | refine below_set ?_ GE448.out) | exact HB.out))
 (case side2 => exact cS_ HR0_4 HB)
 (case side3 => exact HC0_4.out)
 (case side4 => exact cS_ HR1 HB)
 (case side5 => exact HC1.out)
 rintro e w24 ⟨v453, rfl, ho0, hb⟩
 refine ⟨_, rfl, ?_⟩
 have HO454 := Aside0.mk (Kd.R_lower ho0 (below_size (bw1_ HB GE448)))
 replace BK448 := Aside0.mk (blk_below (bk_ BK448) hb)
 replace HB := Aside0.mk (below_step (bw1_ HB GE448) hb)
 (try clear hb)
 (try clear hb2)
 (try clear hk)
 (try clear hi)
 (try clear ho0)
 obtain ⟨Ao25, co25, eo25⟩ := Kd.R_slice HO454.out
 (first | subst eo25 | (injection eo25 with f1_ f2_ f3_; have f4_ := f1_.symm; have f5_ := f3_.symm; clear f1_ f2_ f3_; subst f4_; subst f5_))
 refine hK.out _ _ ⟨(blk_cell BK448.out 0).trans rfl, (blk_cell BK448.out 1).trans rfl, (blk_cell BK448.out 2).trans rfl, (blk_cell BK448.out 3).trans rfl, (blk_cell BK448.out 4).trans rfl⟩ (fun hHeld => ?_)
 clear hK K
 refine nS_ 27 ?_
 refine oS_ 23 (fun K hK => ?_)
 refine gS_ Tryz.func85 #[.slice A0_2 l0_2.length c0_2, .slice Ao25 t452.length co25] ?_
 with_reducible refine (impl_sameTexts.calls k _ _ l0_2 _ _ t452 true _ ?side1 ?side2 ?side3 ?side4 A10.out).mono ?_
 (case side1 => exact cS_ HR0_2 HB)
 (case side2 => exact HC0_2.out)
 (case side3 => repeat (first | exact (Kd.R_reads' HO454.out).2.2 | (with_reducible refine Kd.C_alloc ?_ _) | (with_reducible refine Kd.C_drewN ?_ _) | (with_reducible refine Kd.C_drew ?_)))
 (case side4 => exact (Kd.R_reads' HO454.out).2.1)
 rintro e w' ⟨rfl, ⟨nd, rfl⟩⟩
 refine ⟨_, rfl, ?_⟩
 refine hK.out _ _ ⟨(blk_cell BK448.out 0).trans rfl, (blk_cell BK448.out 1).trans rfl, (blk_cell BK448.out 2).trans rfl, (blk_cell BK448.out 3).trans rfl, (blk_cell BK448.out 4).trans rfl⟩ (fun hHeld => ?_)
 clear hK K
 refine nS_ 28 ?_
 refine pS_ 24 ?_
 refine pS_ 25 ?_
 refine pS_ 26 ?_
 refine t5_ 27 hHeld ?_
 refine pS_ 28 ?_
 refine pS_ 29 ?_
 refine pS_ 30 ?_
 refine t5_ 31 hHeld ?_
 refine oS_ 32 (fun K hK => ?_)
 refine gS_ Tryz.func76 #[.string a0_3] ?_
 with_reducible refine (impl_AddressOk.calls k a0_3 t456 _ A19.out).mono ?_
 rintro e w' ⟨rfl, ⟨nd, rfl⟩⟩
 refine ⟨_, rfl, ?_⟩
 refine hK.out _ _ ⟨(blk_cell BK448.out 0).trans rfl, (blk_cell BK448.out 1).trans rfl, (blk_cell BK448.out 2).trans rfl, (blk_cell BK448.out 3).trans rfl, (blk_cell BK448.out 4).trans rfl⟩ (fun hHeld => ?_)
 clear hK K
 refine nS_ 37 ?_
 refine pS_ 33 ?_
 refine pS_ 34 ?_
 refine pS_ 35 ?_
 refine done_ (done_of HT_.out (by kernel_rfl)) ?_
 try go_wp2
 go_ret
 exact ⟨eR_, bw1_ HB GE448⟩}}
 {
 replace c11 := Bool.eq_false_iff.mpr c11
 subst c11
 rw [if_neg (show ¬ (false = true) by decide)] at H
 obtain rfl := Option.some.inj H
 go_enter Tryz.func66, Tryz.ntmps66
 try go_wp2_with (first | ((with_reducible refine gate_dst (N := 2) rfl ?_); refine bE_ 2 #[.string a0_0, .string a0_1, .slice A0_2 l0_2.length c0_2, .string a0_3, .slice A0_4 l0_4.length c0_4] 55 ?_; intro gb448 hg w26 hbox hb; have BK448 := Aside0.mk (hbox); have GW448 := Aside0.mk (ge_ hg (bw_ HB)); have GE448 := Aside0.mk (ge_ hg (bw_ HB)); replace HB := Aside0.mk (below_step (bw_ HB) hb); clear hb hbox hg))
 replace BK448 := Aside0.mk (blk_drew BK448.out)
 replace HB := Aside0.mk (below_drew1 HB.out)
 refine start_ (n := 36) (S := fun w' => w'.cell? ⟨gb448, 0, none⟩ = some (.string a0_0) ∧ w'.cell? ⟨gb448, 1, none⟩ = some (.string a0_1) ∧ w'.cell? ⟨gb448, 2, none⟩ = some (.slice A0_2 l0_2.length c0_2) ∧ w'.cell? ⟨gb448, 3, none⟩ = some (.string a0_3) ∧ w'.cell? ⟨gb448, 4, none⟩ = some (.slice A0_4 l0_4.length c0_4)) (ds := []) (bs_ 36 0) (by kernel_rfl) rfl (by kernel_rfl) ⟨(blk_cell BK448.out 0).trans rfl, (blk_cell BK448.out 1).trans rfl, (blk_cell BK448.out 2).trans rfl, (blk_cell BK448.out 3).trans rfl, (blk_cell BK448.out 4).trans rfl⟩ (fun hHeld => ?_); refine with_tabW impl_itemOk.tab1 impl_itemOk.bits1 (fun HT_ HW_ => ?_)
 generalize w26.drew = w27 at BK448 HB hHeld ⊢
 refine pS_ 0 ?_
 refine t5_ 1 hHeld ?_
 refine oS_ 2 (fun K hK => ?_)
 refine gS_ Tryz.func76 #[.string a0_0] ?_
 with_reducible refine (impl_AddressOk.calls k a0_0 true _ A3.out).mono ?_
 rintro e w' ⟨rfl, ⟨nd, rfl⟩⟩
 refine ⟨_, rfl, ?_⟩
 refine hK.out _ _ ⟨(blk_cell BK448.out 0).trans rfl, (blk_cell BK448.out 1).trans rfl, (blk_cell BK448.out 2).trans rfl, (blk_cell BK448.out 3).trans rfl, (blk_cell BK448.out 4).trans rfl⟩ (fun hHeld => ?_)
 clear hK K
 refine nS_ 7 ?_
 refine pS_ 3 ?_
 refine pS_ 4 ?_
 refine t5_ 5 hHeld ?_
 refine oS_ 6 (fun K hK => ?_)
 refine gS_ Tryz.func77 #[.slice A0_4 l0_4.length c0_4] ?_
 with_reducible refine (impl_TreeOk.calls k _ _ l0_4 true _ ?side1 ?side2 ?side3 A5.out).mono ?_
 (case side1 => refine EnvW.below HE.out ?_; repeat (first | (with_reducible first | exact HB.out | apply below_alloc | apply pw_below_drewN | apply below_drew1 | refine below_set ?_ GE448.out) | exact HB.out))
 (case side2 => repeat (first | exact (Kd.C_below HR0_4.out (bw1_ HB GE448)) | (with_reducible refine Kd.C_alloc ?_ _) | (with_reducible refine Kd.C_drewN ?_ _) | (with_reducible refine Kd.C_drew ?_)))
 (case side3 => exact HC0_4.out)
 rintro e w28 ⟨rfl, hb⟩
 refine ⟨_, rfl, ?_⟩
 replace BK448 := Aside0.mk (blk_below (bk_ BK448) hb)
 replace HB := Aside0.mk (below_step (bw1_ HB GE448) hb)
 (try clear hb)
 (try clear hb2)
 (try clear hk)
 (try clear hi)
 refine hK.out _ _ ⟨(blk_cell BK448.out 0).trans rfl, (blk_cell BK448.out 1).trans rfl, (blk_cell BK448.out 2).trans rfl, (blk_cell BK448.out 3).trans rfl, (blk_cell BK448.out 4).trans rfl⟩ (fun hHeld => ?_)
 clear hK K
 refine nS_ 11 ?_
 refine pS_ 7 ?_
 refine pS_ 8 ?_
 refine pS_ 9 ?_
 refine pS_ 11 ?_
 refine t5_ 10 hHeld ?_
 refine t5_ 12 hHeld ?_
 refine oS_ 13 (fun K hK => ?_)
 refine gS_ Tryz.func50 #[.slice A0_4 l0_4.length c0_4] ?_
 with_reducible refine (impl_TreeSum.calls k _ _ l0_4 t451 _ ?side1 ?side2 ?side3 A7.out).mono ?_
 (case side1 => refine EnvW.below HE.out ?_; repeat (first | (with_reducible first | exact HB.out | apply below_alloc | apply pw_below_drewN | apply below_drew1 | refine below_set ?_ GE448.out) | exact HB.out))
 (case side2 => exact cS_ HR0_4 HB)
 (case side3 => exact HC0_4.out)
 rintro e w29 ⟨rfl, hb⟩
 refine ⟨_, rfl, ?_⟩
 replace BK448 := Aside0.mk (blk_below (bk_ BK448) hb)
 replace HB := Aside0.mk (below_step (bw1_ HB GE448) hb)
 (try clear hb)
 (try clear hb2)
 (try clear hk)
 (try clear hi)
 refine hK.out _ _ ⟨(blk_cell BK448.out 0).trans rfl, (blk_cell BK448.out 1).trans rfl, (blk_cell BK448.out 2).trans rfl, (blk_cell BK448.out 3).trans rfl, (blk_cell BK448.out 4).trans rfl⟩ (fun hHeld => ?_)
 clear hK K
 refine nS_ 18 ?_
 refine pS_ 14 ?_
 refine pS_ 15 ?_
 refine pS_ 16 ?_
 refine pS_ 17 ?_
 refine pS_ 19 ?_
 refine pS_ 21 ?_
 refine t5_ 18 hHeld ?_
 refine t5_ 20 hHeld ?_
 refine oS_ 22 (fun K hK => ?_)
 refine gS_ Tryz.func52 #[.slice A0_4 l0_4.length c0_4, .slice A1 l1.length c1] ?_
 with_reducible refine (impl_RefsIn.calls k _ _ l0_4 _ _ l1 t452 _ ?side1 ?side2 ?side3 ?side4 ?side5 A9.out).mono ?_
 (case side1 => refine EnvW.below HE.out ?_; repeat (first | (with_reducible first | exact HB.out | apply below_alloc | apply pw_below_drewN | apply below_drew1 | refine below_set ?_ GE448.out) | exact HB.out))
 (case side2 => exact cS_ HR0_4 HB)
 (case side3 => exact HC0_4.out)
 (case side4 => exact cS_ HR1 HB)
 (case side5 => exact HC1.out)
 rintro e w30 ⟨v453, rfl, ho0, hb⟩
 refine ⟨_, rfl, ?_⟩
 have HO454 := Aside0.mk (Kd.R_lower ho0 (below_size (bw1_ HB GE448)))
 replace BK448 := Aside0.mk (blk_below (bk_ BK448) hb)
 replace HB := Aside0.mk (below_step (bw1_ HB GE448) hb)
 (try clear hb)
 (try clear hb2)
 (try clear hk)
 (try clear hi)
 (try clear ho0)
 obtain ⟨Ao31, co31, eo31⟩ := Kd.R_slice HO454.out
 (first | subst eo31 | (injection eo31 with f1_ f2_ f3_; have f4_ := f1_.symm; have f5_ := f3_.symm; clear f1_ f2_ f3_; subst f4_; subst f5_))
 refine hK.out _ _ ⟨(blk_cell BK448.out 0).trans rfl, (blk_cell BK448.out 1).trans rfl, (blk_cell BK448.out 2).trans rfl, (blk_cell BK448.out 3).trans rfl, (blk_cell BK448.out 4).trans rfl⟩ (fun hHeld => ?_)
 clear hK K
 refine nS_ 27 ?_
 refine oS_ 23 (fun K hK => ?_)
 refine gS_ Tryz.func85 #[.slice A0_2 l0_2.length c0_2, .slice Ao31 t452.length co31] ?_
 with_reducible refine (impl_sameTexts.calls k _ _ l0_2 _ _ t452 false _ ?side1 ?side2 ?side3 ?side4 A10.out).mono ?_
 (case side1 => exact cS_ HR0_2 HB)
 (case side2 => exact HC0_2.out)
 (case side3 => repeat (first | exact (Kd.R_reads' HO454.out).2.2 | (with_reducible refine Kd.C_alloc ?_ _) | (with_reducible refine Kd.C_drewN ?_ _) | (with_reducible refine Kd.C_drew ?_)))
 (case side4 => exact (Kd.R_reads' HO454.out).2.1)
 rintro e w' ⟨rfl, ⟨nd, rfl⟩⟩
 refine ⟨_, rfl, ?_⟩
 refine hK.out _ _ ⟨(blk_cell BK448.out 0).trans rfl, (blk_cell BK448.out 1).trans rfl, (blk_cell BK448.out 2).trans rfl, (blk_cell BK448.out 3).trans rfl, (blk_cell BK448.out 4).trans rfl⟩ (fun hHeld => ?_)
 clear hK K
 refine nS_ 28 ?_
 refine pS_ 24 ?_
 refine pS_ 25 ?_
 refine pU_ 26 ?_
 refine pU_ 27 ?_
 refine pU_ 28 ?_
 refine pU_ 29 ?_
 refine pU_ 30 ?_
 refine pU_ 31 ?_
 refine pU_ 32 ?_
 refine pU_ 33 ?_
 refine pS_ 34 ?_
 refine pS_ 35 ?_
 refine done_ (done_of HT_.out (by kernel_rfl)) ?_
 try go_wp2
 go_ret
 exact ⟨eR_, bw1_ HB GE448⟩}}
 {
 rw [if_neg c8] at H
 have c8b0 : (a0_1.toList == t451.toList) = false := beq_eq_false_iff_ne.mpr c8
 have c8b1 : (a0_1.toList != t451.toList) = true := bne_iff_ne.mpr c8
 obtain rfl := Option.some.inj H
 go_enter Tryz.func66, Tryz.ntmps66
 try go_wp2_with (first | ((with_reducible refine gate_dst (N := 2) rfl ?_); refine bE_ 2 #[.string a0_0, .string a0_1, .slice A0_2 l0_2.length c0_2, .string a0_3, .slice A0_4 l0_4.length c0_4] 55 ?_; intro gb448 hg w32 hbox hb; have BK448 := Aside0.mk (hbox); have GW448 := Aside0.mk (ge_ hg (bw_ HB)); have GE448 := Aside0.mk (ge_ hg (bw_ HB)); replace HB := Aside0.mk (below_step (bw_ HB) hb); clear hb hbox hg))
 replace BK448 := Aside0.mk (blk_drew BK448.out)
 replace HB := Aside0.mk (below_drew1 HB.out)
 refine start_ (n := 36) (S := fun w' => w'.cell? ⟨gb448, 0, none⟩ = some (.string a0_0) ∧ w'.cell? ⟨gb448, 1, none⟩ = some (.string a0_1) ∧ w'.cell? ⟨gb448, 2, none⟩ = some (.slice A0_2 l0_2.length c0_2) ∧ w'.cell? ⟨gb448, 3, none⟩ = some (.string a0_3) ∧ w'.cell? ⟨gb448, 4, none⟩ = some (.slice A0_4 l0_4.length c0_4)) (ds := []) (bs_ 36 0) (by kernel_rfl) rfl (by kernel_rfl) ⟨(blk_cell BK448.out 0).trans rfl, (blk_cell BK448.out 1).trans rfl, (blk_cell BK448.out 2).trans rfl, (blk_cell BK448.out 3).trans rfl, (blk_cell BK448.out 4).trans rfl⟩ (fun hHeld => ?_); refine with_tabW impl_itemOk.tab1 impl_itemOk.bits1 (fun HT_ HW_ => ?_)
 generalize w32.drew = w33 at BK448 HB hHeld ⊢
 refine pS_ 0 ?_
 refine t5_ 1 hHeld ?_
 refine oS_ 2 (fun K hK => ?_)
 refine gS_ Tryz.func76 #[.string a0_0] ?_
 with_reducible refine (impl_AddressOk.calls k a0_0 true _ A3.out).mono ?_
 rintro e w' ⟨rfl, ⟨nd, rfl⟩⟩
 refine ⟨_, rfl, ?_⟩
 refine hK.out _ _ ⟨(blk_cell BK448.out 0).trans rfl, (blk_cell BK448.out 1).trans rfl, (blk_cell BK448.out 2).trans rfl, (blk_cell BK448.out 3).trans rfl, (blk_cell BK448.out 4).trans rfl⟩ (fun hHeld => ?_)
 clear hK K
 refine nS_ 7 ?_
 refine pS_ 3 ?_
 refine pS_ 4 ?_
 refine t5_ 5 hHeld ?_
 refine oS_ 6 (fun K hK => ?_)
 refine gS_ Tryz.func77 #[.slice A0_4 l0_4.length c0_4] ?_
 with_reducible refine (impl_TreeOk.calls k _ _ l0_4 true _ ?side1 ?side2 ?side3 A5.out).mono ?_
 (case side1 => refine EnvW.below HE.out ?_; repeat (first | (with_reducible first | exact HB.out | apply below_alloc | apply pw_below_drewN | apply below_drew1 | refine below_set ?_ GE448.out) | exact HB.out))
 (case side2 => repeat (first | exact (Kd.C_below HR0_4.out (bw1_ HB GE448)) | (with_reducible refine Kd.C_alloc ?_ _) | (with_reducible refine Kd.C_drewN ?_ _) | (with_reducible refine Kd.C_drew ?_)))
 (case side3 => exact HC0_4.out)
 rintro e w34 ⟨rfl, hb⟩
 refine ⟨_, rfl, ?_⟩
 replace BK448 := Aside0.mk (blk_below (bk_ BK448) hb)
 replace HB := Aside0.mk (below_step (bw1_ HB GE448) hb)
 (try clear hb)
 (try clear hb2)
 (try clear hk)
 (try clear hi)
 refine hK.out _ _ ⟨(blk_cell BK448.out 0).trans rfl, (blk_cell BK448.out 1).trans rfl, (blk_cell BK448.out 2).trans rfl, (blk_cell BK448.out 3).trans rfl, (blk_cell BK448.out 4).trans rfl⟩ (fun hHeld => ?_)
 clear hK K
 refine nS_ 11 ?_
 refine pS_ 7 ?_
 refine pS_ 8 ?_
 refine pS_ 9 ?_
 refine pS_ 11 ?_
 refine t5_ 10 hHeld ?_
 refine t5_ 12 hHeld ?_
 refine oS_ 13 (fun K hK => ?_)
 refine gS_ Tryz.func50 #[.slice A0_4 l0_4.length c0_4] ?_
 with_reducible refine (impl_TreeSum.calls k _ _ l0_4 t451 _ ?side1 ?side2 ?side3 A7.out).mono ?_
 (case side1 => refine EnvW.below HE.out ?_; repeat (first | (with_reducible first | exact HB.out | apply below_alloc | apply pw_below_drewN | apply below_drew1 | refine below_set ?_ GE448.out) | exact HB.out))
 (case side2 => exact cS_ HR0_4 HB)
 (case side3 => exact HC0_4.out)
 rintro e w35 ⟨rfl, hb⟩
 refine ⟨_, rfl, ?_⟩
 replace BK448 := Aside0.mk (blk_below (bk_ BK448) hb)
 replace HB := Aside0.mk (below_step (bw1_ HB GE448) hb)
 (try clear hb)
 (try clear hb2)
 (try clear hk)
 (try clear hi)
 refine hK.out _ _ ⟨(blk_cell BK448.out 0).trans rfl, (blk_cell BK448.out 1).trans rfl, (blk_cell BK448.out 2).trans rfl, (blk_cell BK448.out 3).trans rfl, (blk_cell BK448.out 4).trans rfl⟩ (fun hHeld => ?_)
 clear hK K
 refine nS_ 18 ?_
 refine pS_ 14 ?_
 refine pS_ 15 ?_
 refine pS_ 16 ?_
 refine pU_ 17 ?_
 refine pU_ 18 ?_
 refine pU_ 19 ?_
 refine pU_ 20 ?_
 refine pU_ 21 ?_
 refine pU_ 22 ?_
 refine pU_ 23 ?_
 refine pS_ 24 ?_
 refine pS_ 25 ?_
 refine pU_ 26 ?_
 refine pU_ 27 ?_
 refine pU_ 28 ?_
 refine pU_ 29 ?_
 refine pU_ 30 ?_
 refine pU_ 31 ?_
 refine pU_ 32 ?_
 refine pU_ 33 ?_
 refine pS_ 34 ?_
 refine pS_ 35 ?_
 refine done_ (done_of HT_.out (by kernel_rfl)) ?_
 try go_wp2
 go_ret
 exact ⟨eR_, bw1_ HB GE448⟩}}
 {
 replace c6 := Bool.eq_false_iff.mpr c6
 subst c6
 rw [if_neg (show ¬ (false = true) by decide)] at H
 obtain rfl := Option.some.inj H
 go_enter Tryz.func66, Tryz.ntmps66
 try go_wp2_with (first | ((with_reducible refine gate_dst (N := 2) rfl ?_); refine bE_ 2 #[.string a0_0, .string a0_1, .slice A0_2 l0_2.length c0_2, .string a0_3, .slice A0_4 l0_4.length c0_4] 55 ?_; intro gb448 hg w36 hbox hb; have BK448 := Aside0.mk (hbox); have GW448 := Aside0.mk (ge_ hg (bw_ HB)); have GE448 := Aside0.mk (ge_ hg (bw_ HB)); replace HB := Aside0.mk (below_step (bw_ HB) hb); clear hb hbox hg))
 replace BK448 := Aside0.mk (blk_drew BK448.out)
 replace HB := Aside0.mk (below_drew1 HB.out)
 refine start_ (n := 36) (S := fun w' => w'.cell? ⟨gb448, 0, none⟩ = some (.string a0_0) ∧ w'.cell? ⟨gb448, 1, none⟩ = some (.string a0_1) ∧ w'.cell? ⟨gb448, 2, none⟩ = some (.slice A0_2 l0_2.length c0_2) ∧ w'.cell? ⟨gb448, 3, none⟩ = some (.string a0_3) ∧ w'.cell? ⟨gb448, 4, none⟩ = some (.slice A0_4 l0_4.length c0_4)) (ds := []) (bs_ 36 0) (by kernel_rfl) rfl (by kernel_rfl) ⟨(blk_cell BK448.out 0).trans rfl, (blk_cell BK448.out 1).trans rfl, (blk_cell BK448.out 2).trans rfl, (blk_cell BK448.out 3).trans rfl, (blk_cell BK448.out 4).trans rfl⟩ (fun hHeld => ?_); refine with_tabW impl_itemOk.tab1 impl_itemOk.bits1 (fun HT_ HW_ => ?_)
 generalize w36.drew = w37 at BK448 HB hHeld ⊢
 refine pS_ 0 ?_
 refine t5_ 1 hHeld ?_
 refine oS_ 2 (fun K hK => ?_)
 refine gS_ Tryz.func76 #[.string a0_0] ?_
 with_reducible refine (impl_AddressOk.calls k a0_0 true _ A3.out).mono ?_
 rintro e w' ⟨rfl, ⟨nd, rfl⟩⟩
 refine ⟨_, rfl, ?_⟩
 refine hK.out _ _ ⟨(blk_cell BK448.out 0).trans rfl, (blk_cell BK448.out 1).trans rfl, (blk_cell BK448.out 2).trans rfl, (blk_cell BK448.out 3).trans rfl, (blk_cell BK448.out 4).trans rfl⟩ (fun hHeld => ?_)
 clear hK K
 refine nS_ 7 ?_
 refine pS_ 3 ?_
 refine pS_ 4 ?_
 refine t5_ 5 hHeld ?_
 refine oS_ 6 (fun K hK => ?_)
 refine gS_ Tryz.func77 #[.slice A0_4 l0_4.length c0_4] ?_
 with_reducible refine (impl_TreeOk.calls k _ _ l0_4 false _ ?side1 ?side2 ?side3 A5.out).mono ?_
 (case side1 => refine EnvW.below HE.out ?_; repeat (first | (with_reducible first | exact HB.out | apply below_alloc | apply pw_below_drewN | apply below_drew1 | refine below_set ?_ GE448.out) | exact HB.out))
 (case side2 => repeat (first | exact (Kd.C_below HR0_4.out (bw1_ HB GE448)) | (with_reducible refine Kd.C_alloc ?_ _) | (with_reducible refine Kd.C_drewN ?_ _) | (with_reducible refine Kd.C_drew ?_)))
 (case side3 => exact HC0_4.out)
 rintro e w38 ⟨rfl, hb⟩
 refine ⟨_, rfl, ?_⟩
 replace BK448 := Aside0.mk (blk_below (bk_ BK448) hb)
 replace HB := Aside0.mk (below_step (bw1_ HB GE448) hb)
 (try clear hb)
 (try clear hb2)
 (try clear hk)
 (try clear hi)
 refine hK.out _ _ ⟨(blk_cell BK448.out 0).trans rfl, (blk_cell BK448.out 1).trans rfl, (blk_cell BK448.out 2).trans rfl, (blk_cell BK448.out 3).trans rfl, (blk_cell BK448.out 4).trans rfl⟩ (fun hHeld => ?_)
 clear hK K
 refine nS_ 11 ?_
 refine pS_ 7 ?_
 refine pS_ 8 ?_
 refine pU_ 9 ?_
 refine pU_ 10 ?_
 refine pU_ 11 ?_
 refine pU_ 12 ?_
 refine pU_ 13 ?_
 refine pU_ 14 ?_
 refine pS_ 15 ?_
 refine pS_ 16 ?_
 refine pU_ 17 ?_
 refine pU_ 18 ?_
 refine pU_ 19 ?_
 refine pU_ 20 ?_
 refine pU_ 21 ?_
 refine pU_ 22 ?_
 refine pU_ 23 ?_
 refine pS_ 24 ?_
 refine pS_ 25 ?_
 refine pU_ 26 ?_
 refine pU_ 27 ?_
 refine pU_ 28 ?_
 refine pU_ 29 ?_
 refine pU_ 30 ?_
 refine pU_ 31 ?_
 refine pU_ 32 ?_
 refine pU_ 33 ?_
 refine pS_ 34 ?_
 refine pS_ 35 ?_
 refine done_ (done_of HT_.out (by kernel_rfl)) ?_
 try go_wp2
 go_ret
 exact ⟨eR_, bw1_ HB GE448⟩}}
 {
 replace c4 := Bool.eq_false_iff.mpr c4
 subst c4
 rw [if_neg (show ¬ (false = true) by decide)] at H
 obtain rfl := Option.some.inj H
 go_enter Tryz.func66, Tryz.ntmps66
 try go_wp2_with (first | ((with_reducible refine gate_dst (N := 2) rfl ?_); refine bE_ 2 #[.string a0_0, .string a0_1, .slice A0_2 l0_2.length c0_2, .string a0_3, .slice A0_4 l0_4.length c0_4] 55 ?_; intro gb448 hg w39 hbox hb; have BK448 := Aside0.mk (hbox); have GW448 := Aside0.mk (ge_ hg (bw_ HB)); have GE448 := Aside0.mk (ge_ hg (bw_ HB)); replace HB := Aside0.mk (below_step (bw_ HB) hb); clear hb hbox hg))
 replace BK448 := Aside0.mk (blk_drew BK448.out)
 replace HB := Aside0.mk (below_drew1 HB.out)
 refine start_ (n := 36) (S := fun w' => w'.cell? ⟨gb448, 0, none⟩ = some (.string a0_0) ∧ w'.cell? ⟨gb448, 1, none⟩ = some (.string a0_1) ∧ w'.cell? ⟨gb448, 2, none⟩ = some (.slice A0_2 l0_2.length c0_2) ∧ w'.cell? ⟨gb448, 3, none⟩ = some (.string a0_3) ∧ w'.cell? ⟨gb448, 4, none⟩ = some (.slice A0_4 l0_4.length c0_4)) (ds := []) (bs_ 36 0) (by kernel_rfl) rfl (by kernel_rfl) ⟨(blk_cell BK448.out 0).trans rfl, (blk_cell BK448.out 1).trans rfl, (blk_cell BK448.out 2).trans rfl, (blk_cell BK448.out 3).trans rfl, (blk_cell BK448.out 4).trans rfl⟩ (fun hHeld => ?_); refine with_tabW impl_itemOk.tab1 impl_itemOk.bits1 (fun HT_ HW_ => ?_)
 generalize w39.drew = w40 at BK448 HB hHeld ⊢
 refine pS_ 0 ?_
 refine t5_ 1 hHeld ?_
 refine oS_ 2 (fun K hK => ?_)
 refine gS_ Tryz.func76 #[.string a0_0] ?_
 with_reducible refine (impl_AddressOk.calls k a0_0 false _ A3.out).mono ?_
 rintro e w' ⟨rfl, ⟨nd, rfl⟩⟩
 refine ⟨_, rfl, ?_⟩
 refine hK.out _ _ ⟨(blk_cell BK448.out 0).trans rfl, (blk_cell BK448.out 1).trans rfl, (blk_cell BK448.out 2).trans rfl, (blk_cell BK448.out 3).trans rfl, (blk_cell BK448.out 4).trans rfl⟩ (fun hHeld => ?_)
 clear hK K
 refine nS_ 7 ?_
 refine pS_ 3 ?_
 refine pU_ 4 ?_
 refine pU_ 5 ?_
 refine pU_ 6 ?_
 refine pS_ 7 ?_
 refine pS_ 8 ?_
 refine pU_ 9 ?_
 refine pU_ 10 ?_
 refine pU_ 11 ?_
 refine pU_ 12 ?_
 refine pU_ 13 ?_
 refine pU_ 14 ?_
 refine pS_ 15 ?_
 refine pS_ 16 ?_
 refine pU_ 17 ?_
 refine pU_ 18 ?_
 refine pU_ 19 ?_
 refine pU_ 20 ?_
 refine pU_ 21 ?_
 refine pU_ 22 ?_
 refine pU_ 23 ?_
 refine pS_ 24 ?_
 refine pS_ 25 ?_
 refine pU_ 26 ?_
 refine pU_ 27 ?_
 refine pU_ 28 ?_
 refine pU_ 29 ?_
 refine pU_ 30 ?_
 refine pU_ 31 ?_
 refine pU_ 32 ?_
 refine pU_ 33 ?_
 refine pS_ 34 ?_
 refine pS_ 35 ?_
 refine done_ (done_of HT_.out (by kernel_rfl)) ?_
 try go_wp2
 go_ret
 exact ⟨eR_, bw1_ HB GE448⟩
}
def spec_l12SameTexts.l0 : Nat → List ByteArray → List ByteArray → Int → Option (Bool)
 | 0, _, _, _ => none
 | k + 1, x0, x1, x5 => if x5 < (x0.length : Int) then (if 0 ≤ x5 then (if x5 < (x1.length : Int) then (if (rdOf ByteArray.empty x0 x5).toList = (rdOf ByteArray.empty x1 x5).toList then (spec_l12SameTexts.l0 k x0 x1 (wrap64 (x5 + 1))) else (some false)) else (none)) else (none)) else (some true)
def spec_l12SameTexts.f (k : Nat) (l0 : List ByteArray) (l1 : List ByteArray) : Option (Bool) := if (l0.length : Int) = (l1.length : Int) then (spec_l12SameTexts.l0 k l0 l1 0) else (some false)
theorem spec_l12SameTexts.calls (k : Nat) (A0 : Option Addr) (c0 : Nat) (l0 : List ByteArray) (A1 : Option Addr) (c1 : Nat) (l1 : List ByteArray) (r : Bool) (w : World) (hr0 : Kd.C Kd.string w A0 l0.length l0) (hc0 : l0.length ≤ c0) (hr1 : Kd.C Kd.string w A1 l1.length l1) (hc1 : l1.length ≤ c1) (h : spec_l12SameTexts.f k l0 l1 = some r) :
 Calls Tryz.prog 84 #[.slice A0 l0.length c0, .slice A1 l1.length c1] w fun e w' => e = .returned (.bool r) ∧ Drawn0 w w' := by
 have HR0 := Aside0.mk hr0
 have HC0 := Aside0.mk hc0
 clear hr0 hc0
 have HR1 := Aside0.mk hr1
 have HC1 := Aside0.mk hc1
 clear hr1 hc1
 have H : (if (l0.length : Int) = (l1.length : Int) then (spec_l12SameTexts.l0 k l0 l1 0) else (some false)) = some r := h
 clear h
 by_cases c3 : (l0.length : Int) = (l1.length : Int)
 {
 rw [if_pos c3] at H
 have c3b0 : ((l0.length : Int) == (l1.length : Int)) = true := beq_iff_eq.mpr c3
 have c3b1 : ((l0.length : Int) != (l1.length : Int)) = false := bne_eq_false_iff_eq.mpr c3
 have c3b2 : (l0.length == l1.length) = true := by first | simpa using c3 | (simp at c3 ⊢; omega)
 clear c3
 have H' := Aside0.mk H
 clear H
 go_enter Tryz.func84, Tryz.ntmps84
 go_wp2
 repeat (go_quiet (fail); try go_wp2)
 go_loopg [5] k (fun kq v5 w' => ∃ (x5_1 : Int), v5 = .int .i64 x5_1 ∧ Aside0 (spec_l12SameTexts.l0 kq l0 l1 x5_1 = some r) ∧ Aside0 (kq ≤ k) ∧ Drawn0 w w')
 case atStart => exact ⟨(0), (by first | rfl | (simp; done) | (simp [*]; done)), H', ⟨Nat.le_refl _⟩, dR_⟩
 case round =>
  clear H'
  try clear c1
  try clear p2
  try clear c3
  try clear c3b0
  try clear c3b1
  try clear c3b2
  obtain ⟨x5_1, rfl, HA, HK1, ⟨m1, rfl⟩⟩ := hrel
  cases gk with
  | zero => exact absurd HA.out (by simp [spec_l12SameTexts.l0])
  | succ k1 =>
       have H := HA.out
       clear HA
       simp only [spec_l12SameTexts.l0] at H
       by_cases c4 : x5_1 < (l0.length : Int)
       {
       rw [if_pos c4] at H
       have c4b0 := decide_eq_true c4
       clear c4
       by_cases c5 : 0 ≤ x5_1
       {
       rw [if_pos c5] at H
       have c5b0 := decide_eq_true c5
       clear c5
       by_cases c6 : x5_1 < (l1.length : Int)
       {
       rw [if_pos c6] at H
       have c6b0 := decide_eq_true c6
       clear c6
       by_cases c7 : (rdOf ByteArray.empty l0 x5_1).toList = (rdOf ByteArray.empty l1 x5_1).toList
       {
       rw [if_pos c7] at H
       have c7b0 : ((rdOf ByteArray.empty l0 x5_1).toList == (rdOf ByteArray.empty l1 x5_1).toList) = true := beq_iff_eq.mpr c7
       have c7b1 : ((rdOf ByteArray.empty l0 x5_1).toList != (rdOf ByteArray.empty l1 x5_1).toList) = false := bne_eq_false_iff_eq.mpr c7
       clear c7
       have H' := Aside0.mk H
       clear H
       have p265 : 0 ≤ (x5_1 : Int) := dA_
       have q265 : x5_1 < (l0.length : Int) := dA_
       obtain ⟨ad265, e265, hx265_0⟩ := Kd.at_string HR0.out x5_1 p265 q265
       cases e265
       replace p265 := eq_true p265
       replace q265 := eq_true q265
       have p266 : 0 ≤ (x5_1 : Int) := dA_
       have q266 : x5_1 < (l1.length : Int) := dA_
       obtain ⟨ad266, e266, hx266_0⟩ := Kd.at_string HR1.out x5_1 p266 q266
       cases e266
       replace p266 := eq_true p266
       replace q266 := eq_true q266
       go_wp2
       repeat (go_quiet (fail); try go_wp2)
       go_roundg k1
       case measure => have := HK1.out; omega
       case rel => exact ⟨(wrap64 (x5_1 + 1)), (by first | rfl | (simp; done) | (simp [*]; done)), H', ⟨by have := HK1.out; omega⟩, dR_⟩}
       {
       rw [if_neg c7] at H
       have c7b0 : ((rdOf ByteArray.empty l0 x5_1).toList == (rdOf ByteArray.empty l1 x5_1).toList) = false := beq_eq_false_iff_ne.mpr c7
       have c7b1 : ((rdOf ByteArray.empty l0 x5_1).toList != (rdOf ByteArray.empty l1 x5_1).toList) = true := bne_iff_ne.mpr c7
       obtain rfl := Option.some.inj H
       have p265 : 0 ≤ (x5_1 : Int) := dA_
       have q265 : x5_1 < (l0.length : Int) := dA_
       obtain ⟨ad265, e265, hx265_0⟩ := Kd.at_string HR0.out x5_1 p265 q265
       cases e265
       replace p265 := eq_true p265
       replace q265 := eq_true q265
       have p266 : 0 ≤ (x5_1 : Int) := dA_
       have q266 : x5_1 < (l1.length : Int) := dA_
       obtain ⟨ad266, e266, hx266_0⟩ := Kd.at_string HR1.out x5_1 p266 q266
       cases e266
       replace p266 := eq_true p266
       replace q266 := eq_true q266
       go_wp2
       repeat (go_quiet (fail); try go_wp2)
       go_ret
       exact ⟨eS_, dR_⟩}}
       {
       rw [if_neg c6] at H
       exact absurd H (by simp)}}
       {
       rw [if_neg c5] at H
       exact absurd H (by simp)}}
       {
       rw [if_neg c4] at H
       have c4b0 := decide_eq_false c4
       clear c4
       obtain rfl := Option.some.inj H
       go_wp2
       repeat (go_quiet (fail); try go_wp2)
       go_ret
       exact ⟨eS_, dR_⟩}}
 {
 rw [if_neg c3] at H
 have c3b0 : ((l0.length : Int) == (l1.length : Int)) = false := beq_eq_false_iff_ne.mpr c3
 have c3b1 : ((l0.length : Int) != (l1.length : Int)) = true := bne_iff_ne.mpr c3
 have c3b2 : (l0.length == l1.length) = false := by first | simpa using c3 | (simp at c3 ⊢; omega)
 obtain rfl := Option.some.inj H
 go_enter Tryz.func84, Tryz.ntmps84
 go_wp2
 repeat (go_quiet (fail); try go_wp2)
 go_ret
 exact ⟨eS_, dR_⟩
}
def spec_l12ItemOk.f (k : Nat) (a0_0 : ByteArray) (a0_1 : ByteArray) (l0_2 : List ByteArray) (a0_3 : ByteArray) (l0_4 : List (S57)) (l1 : List ByteArray) : Option (Bool) := (spec_AddressOk.f k a0_0).bind fun t268 => (if t268 = true then ((spec_TreeOk.f k l0_4).bind fun t269 => (if t269 = true then ((spec_TreeSum.f k l0_4).bind fun t270 => (if a0_1.toList = t270.toList then (if a0_3.toList = ([] : List UInt8) then ((spec_l10Refs.f k l0_4 l1).bind fun t271 => ((spec_l12SameTexts.f k l0_2 t271).bind fun t274 => (some t274))) else ((spec_AddressOk.f k a0_3).bind fun t275 => (if t275 = true then ((spec_l10Refs.f k l0_4 l1).bind fun t276 => ((spec_l12SameTexts.f k l0_2 t276).bind fun t279 => (some t279))) else (some false)))) else (some false))) else (some false))) else (some false))
def spec_l12ItemOk.T1 : Bool × List (List Nat × List Nat) := (true, [([], []), ([0], [0]), ([1], [1]), ([2, 2], [2]), ([3], [3]), ([4, 3], [3, 4]), ([5, 3, 3], [3, 5]), ([3, 6], [3, 6]), ([7, 6], [7]), ([8], [8]), ([9, 8], [8, 9]), ([8], [8]), ([11, 8], [8, 11]), ([12, 8, 8], [8, 12]), ([10, 13, 8], [8, 10, 13]), ([8, 14], [8, 14]), ([15, 13], [15]), ([16], [16]), ([17, 16], [16, 17]), ([18, 16], [16, 18]), ([19, 16, 16], [16, 19]), ([20], [20]), ([21, 20], [20, 21]), ([22, 20, 20], [20, 22]), ([20, 23, 16], [16, 20, 23]), ([16, 24], [16, 24]), ([25, 23], [25]), ([26], [26]), ([27, 26], [26, 27]), ([26], [26]), ([29, 26], [26, 29]), ([26], [26]), ([30, 31, 26, 26], [26, 30, 31]), ([28, 32, 32, 26], [26, 28, 32]), ([26, 33], [26, 33]), ([34, 33, 0, 1, 2, 3, 4, 5, 6, 7, 8, 9, 10, 11, 12, 13, 14, 15, 16, 17, 18, 19, 20, 21, 22, 23, 24, 25, 26, 27, 28, 29, 30, 31, 32, 33, 34], [34])])
def spec_l12ItemOk.B1 : List Nat := [0, 1, 3, 7, 15, 31, 63, 127, 255, 511, 1023, 511, 2559, 6655, 16383, 32767, 65535, 131071, 262143, 524287, 1048575, 2097151, 4194303, 8388607, 16777215, 33554431, 67108863, 134217727, 268435455, 134217727, 671088639, 134217727, 3892314111, 8589934591, 17179869183, 34359738367]
theorem spec_l12ItemOk.tab1 : rtab .any (opsOf Tryz.f64 1) = spec_l12ItemOk.T1 := by kernel_rfl
theorem spec_l12ItemOk.bits1 : waitsOk spec_l12ItemOk.T1.2 spec_l12ItemOk.B1 = true := by kernel_rfl
theorem spec_l12ItemOk.calls (k : Nat) (a0_0 : ByteArray) (a0_1 : ByteArray) (A0_2 : Option Addr) (c0_2 : Nat) (l0_2 : List ByteArray) (a0_3 : ByteArray) (A0_4 : Option Addr) (c0_4 : Nat) (l0_4 : List (S57)) (A1 : Option Addr) (c1 : Nat) (l1 : List ByteArray) (r : Bool) (w : World) (hr0_2 : Kd.C Kd.string w A0_2 l0_2.length l0_2) (hc0_2 : l0_2.length ≤ c0_2) (hr0_4 : Kd.C k57 w A0_4 l0_4.length l0_4) (hc0_4 : l0_4.length ≤ c0_4) (hr1 : Kd.C Kd.string w A1 l1.length l1) (hc1 : l1.length ≤ c1) (h : spec_l12ItemOk.f k a0_0 a0_1 l0_2 a0_3 l0_4 l1 = some r) :
 Calls Tryz.prog 64 #[.agg #[.string a0_0, .string a0_1, .slice A0_2 l0_2.length c0_2, .string a0_3, .slice A0_4 l0_4.length c0_4], .slice A1 l1.length c1] w fun e w' => e = .returned (.bool r) ∧ Below w.heap.size w w' := by
 have hu55 := Tryz.underlying55
 have HR0_2 := Aside0.mk hr0_2
 have HC0_2 := Aside0.mk hc0_2
 clear hr0_2 hc0_2
 have HR0_4 := Aside0.mk hr0_4
 have HC0_4 := Aside0.mk hc0_4
 clear hr0_4 hc0_4
 have HR1 := Aside0.mk hr1
 have HC1 := Aside0.mk hc1
 clear hr1 hc1
 have HB := Aside0.mk (Below.refl w.heap.size w)
 have H : ((spec_AddressOk.f k a0_0).bind fun t268 => (if t268 = true then ((spec_TreeOk.f k l0_4).bind fun t269 => (if t269 = true then ((spec_TreeSum.f k l0_4).bind fun t270 => (if a0_1.toList = t270.toList then (if a0_3.toList = ([] : List UInt8) then ((spec_l10Refs.f k l0_4 l1).bind fun t271 => ((spec_l12SameTexts.f k l0_2 t271).bind fun t274 => (some t274))) else ((spec_AddressOk.f k a0_3).bind fun t275 => (if t275 = true then ((spec_l10Refs.f k l0_4 l1).bind fun t276 => ((spec_l12SameTexts.f k l0_2 t276).bind fun t279 => (some t279))) else (some false)))) else (some false))) else (some false))) else (some false))) = some r := h
 clear h
 replace H := Option.bind_eq_some_iff.mp H
 obtain ⟨t268, A30, H⟩ := H
 have A3 := Aside0.mk A30
 clear A30
 by_cases c4 : t268 = true
 {
 subst c4
 rw [if_pos rfl] at H
 replace H := Option.bind_eq_some_iff.mp H
 obtain ⟨t269, A50, H⟩ := H
 have A5 := Aside0.mk A50
 clear A50
 by_cases c6 : t269 = true
 {
 subst c6
 rw [if_pos rfl] at H
 replace H := Option.bind_eq_some_iff.mp H
 obtain ⟨t270, A70, H⟩ := H
 have A7 := Aside0.mk A70
 clear A70
 by_cases c8 : a0_1.toList = t270.toList
 {
 rw [if_pos c8] at H
 have c8b0 : (a0_1.toList == t270.toList) = true := beq_iff_eq.mpr c8
 have c8b1 : (a0_1.toList != t270.toList) = false := bne_eq_false_iff_eq.mpr c8
 clear c8
 by_cases c9 : a0_3.toList = ([] : List UInt8)
 {
 rw [if_pos c9] at H
 have c9b0 : (a0_3.toList == ([] : List UInt8)) = true := beq_iff_eq.mpr c9
 have c9b1 : (a0_3.toList != ([] : List UInt8)) = false := bne_eq_false_iff_eq.mpr c9
 clear c9
 replace H := Option.bind_eq_some_iff.mp H
 obtain ⟨t271, A100, H⟩ := H
 have A10 := Aside0.mk A100
 clear A100
 replace H := Option.bind_eq_some_iff.mp H
 obtain ⟨t274, A110, H⟩ := H
 have A11 := Aside0.mk A110
 clear A110
 obtain rfl := Option.some.inj H
 go_enter Tryz.func64, Tryz.ntmps64
 try go_wp2_with (first | ((with_reducible refine gate_dst (N := 2) rfl ?_); refine bE_ 2 #[.string a0_0, .string a0_1, .slice A0_2 l0_2.length c0_2, .string a0_3, .slice A0_4 l0_4.length c0_4] 55 ?_; intro gb267 hg w12 hbox hb; have BK267 := Aside0.mk (hbox); have GW267 := Aside0.mk (ge_ hg (bw_ HB)); have GE267 := Aside0.mk (ge_ hg (bw_ HB)); replace HB := Aside0.mk (below_step (bw_ HB) hb); clear hb hbox hg))
 replace BK267 := Aside0.mk (blk_drew BK267.out)
 replace HB := Aside0.mk (below_drew1 HB.out)
 refine start_ (n := 36) (S := fun w' => w'.cell? ⟨gb267, 0, none⟩ = some (.string a0_0) ∧ w'.cell? ⟨gb267, 1, none⟩ = some (.string a0_1) ∧ w'.cell? ⟨gb267, 2, none⟩ = some (.slice A0_2 l0_2.length c0_2) ∧ w'.cell? ⟨gb267, 3, none⟩ = some (.string a0_3) ∧ w'.cell? ⟨gb267, 4, none⟩ = some (.slice A0_4 l0_4.length c0_4)) (ds := []) (bs_ 36 0) (by kernel_rfl) rfl (by kernel_rfl) ⟨(blk_cell BK267.out 0).trans rfl, (blk_cell BK267.out 1).trans rfl, (blk_cell BK267.out 2).trans rfl, (blk_cell BK267.out 3).trans rfl, (blk_cell BK267.out 4).trans rfl⟩ (fun hHeld => ?_); refine with_tabW spec_l12ItemOk.tab1 spec_l12ItemOk.bits1 (fun HT_ HW_ => ?_)
 generalize w12.drew = w13 at BK267 HB hHeld ⊢
 refine pS_ 0 ?_
 refine t5_ 1 hHeld ?_
 refine oS_ 2 (fun K hK => ?_)
 refine gS_ Tryz.func43 #[.string a0_0] ?_
 with_reducible refine (spec_AddressOk.calls k a0_0 true _ A3.out).mono ?_
 rintro e w' ⟨rfl, ⟨nd, rfl⟩⟩
 refine ⟨_, rfl, ?_⟩
 refine hK.out _ _ ⟨(blk_cell BK267.out 0).trans rfl, (blk_cell BK267.out 1).trans rfl, (blk_cell BK267.out 2).trans rfl, (blk_cell BK267.out 3).trans rfl, (blk_cell BK267.out 4).trans rfl⟩ (fun hHeld => ?_)
 clear hK K
 refine nS_ 7 ?_
 refine pS_ 3 ?_
 refine pS_ 4 ?_
 refine t5_ 5 hHeld ?_
 refine oS_ 6 (fun K hK => ?_)
 refine gS_ Tryz.func44 #[.slice A0_4 l0_4.length c0_4] ?_
 with_reducible refine (spec_TreeOk.calls k _ _ l0_4 true _ ?side1 ?side2 A5.out).mono ?_
 (case side1 => repeat (first | exact (Kd.C_below HR0_4.out (bw1_ HB GE267)) | (with_reducible refine Kd.C_alloc ?_ _) | (with_reducible refine Kd.C_drewN ?_ _) | (with_reducible refine Kd.C_drew ?_)))
 (case side2 => exact HC0_4.out)
 rintro e w14 ⟨rfl, hb⟩
 refine ⟨_, rfl, ?_⟩
 replace BK267 := Aside0.mk (blk_below (bk_ BK267) hb)
 replace HB := Aside0.mk (below_step (bw1_ HB GE267) hb)
 (try clear hb)
 (try clear hb2)
 (try clear hk)
 (try clear hi)
 refine hK.out _ _ ⟨(blk_cell BK267.out 0).trans rfl, (blk_cell BK267.out 1).trans rfl, (blk_cell BK267.out 2).trans rfl, (blk_cell BK267.out 3).trans rfl, (blk_cell BK267.out 4).trans rfl⟩ (fun hHeld => ?_)
 clear hK K
 refine nS_ 11 ?_
 refine pS_ 7 ?_
 refine pS_ 8 ?_
 refine pS_ 9 ?_
 refine pS_ 11 ?_
 refine t5_ 10 hHeld ?_
 refine t5_ 12 hHeld ?_
 refine oS_ 13 (fun K hK => ?_)
 refine gS_ Tryz.func73 #[.slice A0_4 l0_4.length c0_4] ?_
 with_reducible refine (spec_TreeSum.calls k _ _ l0_4 t270 _ ?side1 ?side2 A7.out).mono ?_
 (case side1 => exact cS_ HR0_4 HB)
 (case side2 => exact HC0_4.out)
 rintro e w15 ⟨rfl, hb⟩
 refine ⟨_, rfl, ?_⟩
 replace BK267 := Aside0.mk (blk_below (bk_ BK267) hb)
 replace HB := Aside0.mk (below_step (bw1_ HB GE267) hb)
 (try clear hb)
 (try clear hb2)
 (try clear hk)
 (try clear hi)
 refine hK.out _ _ ⟨(blk_cell BK267.out 0).trans rfl, (blk_cell BK267.out 1).trans rfl, (blk_cell BK267.out 2).trans rfl, (blk_cell BK267.out 3).trans rfl, (blk_cell BK267.out 4).trans rfl⟩ (fun hHeld => ?_)
 clear hK K
 refine nS_ 18 ?_
 refine pS_ 14 ?_
 refine pS_ 15 ?_
 refine pS_ 16 ?_
 refine pS_ 17 ?_
 refine t5_ 18 hHeld ?_
 refine pS_ 19 ?_
 refine pS_ 20 ?_
 refine pU_ 21 ?_
 refine pU_ 22 ?_
 refine pU_ 23 ?_
 refine pS_ 24 ?_
 refine pS_ 25 ?_
 refine pS_ 26 ?_
 refine pS_ 27 ?_
 refine pS_ 29 ?_
 refine pS_ 31 ?_
 refine t5_ 28 hHeld ?_
 refine t5_ 30 hHeld ?_
 refine oS_ 32 (fun K hK => ?_)
 refine gS_ Tryz.func74 #[.slice A0_4 l0_4.length c0_4, .slice A1 l1.length c1] ?_
 with_reducible refine (spec_l10Refs.calls k _ _ l0_4 _ _ l1 t271 _ ?side1 ?side2 ?side3 ?side4 A10.out).mono ?_
 (case side1 => exact cS_ HR0_4 HB)
 (case side2 => exact HC0_4.out)
 (case side3 => exact cS_ HR1 HB)
 (case side4 => exact HC1.out)
 rintro e w16 ⟨v272, rfl, ho0, hb⟩
 refine ⟨_, rfl, ?_⟩
 have HO273 := Aside0.mk (Kd.R_lower ho0 (below_size (bw1_ HB GE267)))
 replace BK267 := Aside0.mk (blk_below (bk_ BK267) hb)
 replace HB := Aside0.mk (below_step (bw1_ HB GE267) hb)
 (try clear hb)
 (try clear hb2)
 (try clear hk)
 (try clear hi)
 (try clear ho0)
 obtain ⟨Ao17, co17, eo17⟩ := Kd.R_slice HO273.out
 (first | subst eo17 | (injection eo17 with f1_ f2_ f3_; have f4_ := f1_.symm; have f5_ := f3_.symm; clear f1_ f2_ f3_; subst f4_; subst f5_))
 refine hK.out _ _ ⟨(blk_cell BK267.out 0).trans rfl, (blk_cell BK267.out 1).trans rfl, (blk_cell BK267.out 2).trans rfl, (blk_cell BK267.out 3).trans rfl, (blk_cell BK267.out 4).trans rfl⟩ (fun hHeld => ?_)
 clear hK K
 refine nS_ 37 ?_
 refine oS_ 33 (fun K hK => ?_)
 refine gS_ Tryz.func84 #[.slice A0_2 l0_2.length c0_2, .slice Ao17 t271.length co17] ?_
 with_reducible refine (spec_l12SameTexts.calls k _ _ l0_2 _ _ t271 t274 _ ?side1 ?side2 ?side3 ?side4 A11.out).mono ?_
 (case side1 => exact cS_ HR0_2 HB)
 (case side2 => exact HC0_2.out)
 (case side3 => repeat (first | exact (Kd.R_reads' HO273.out).2.2 | (with_reducible refine Kd.C_alloc ?_ _) | (with_reducible refine Kd.C_drewN ?_ _) | (with_reducible refine Kd.C_drew ?_)))
 (case side4 => exact (Kd.R_reads' HO273.out).2.1)
 rintro e w' ⟨rfl, ⟨nd, rfl⟩⟩
 refine ⟨_, rfl, ?_⟩
 refine hK.out _ _ ⟨(blk_cell BK267.out 0).trans rfl, (blk_cell BK267.out 1).trans rfl, (blk_cell BK267.out 2).trans rfl, (blk_cell BK267.out 3).trans rfl, (blk_cell BK267.out 4).trans rfl⟩ (fun hHeld => ?_)
 clear hK K
 refine nS_ 38 ?_
 refine pS_ 34 ?_
 refine pS_ 35 ?_
 refine done_ (done_of HT_.out (by kernel_rfl)) ?_
 try go_wp2
 go_ret
 exact ⟨eR_, bw1_ HB GE267⟩}
 {
 rw [if_neg c9] at H
 have c9b0 : (a0_3.toList == ([] : List UInt8)) = false := beq_eq_false_iff_ne.mpr c9
 have c9b1 : (a0_3.toList != ([] : List UInt8)) = true := bne_iff_ne.mpr c9
 replace H := Option.bind_eq_some_iff.mp H
 obtain ⟨t275, A180, H⟩ := H
 have A18 := Aside0.mk A180
 clear A180
 by_cases c19 : t275 = true
 {
 subst c19
 rw [if_pos rfl] at H
 replace H := Option.bind_eq_some_iff.mp H
 obtain ⟨t276, A200, H⟩ := H
 have A20 := Aside0.mk A200
 clear A200
 replace H := Option.bind_eq_some_iff.mp H
 obtain ⟨t279, A210, H⟩ := H
 have A21 := Aside0.mk A210
 clear A210
 obtain rfl := Option.some.inj H
 go_enter Tryz.func64, Tryz.ntmps64
 try go_wp2_with (first | ((with_reducible refine gate_dst (N := 2) rfl ?_); refine bE_ 2 #[.string a0_0, .string a0_1, .slice A0_2 l0_2.length c0_2, .string a0_3, .slice A0_4 l0_4.length c0_4] 55 ?_; intro gb267 hg w22 hbox hb; have BK267 := Aside0.mk (hbox); have GW267 := Aside0.mk (ge_ hg (bw_ HB)); have GE267 := Aside0.mk (ge_ hg (bw_ HB)); replace HB := Aside0.mk (below_step (bw_ HB) hb); clear hb hbox hg))
 replace BK267 := Aside0.mk (blk_drew BK267.out)
 replace HB := Aside0.mk (below_drew1 HB.out)
 refine start_ (n := 36) (S := fun w' => w'.cell? ⟨gb267, 0, none⟩ = some (.string a0_0) ∧ w'.cell? ⟨gb267, 1, none⟩ = some (.string a0_1) ∧ w'.cell? ⟨gb267, 2, none⟩ = some (.slice A0_2 l0_2.length c0_2) ∧ w'.cell? ⟨gb267, 3, none⟩ = some (.string a0_3) ∧ w'.cell? ⟨gb267, 4, none⟩ = some (.slice A0_4 l0_4.length c0_4)) (ds := []) (bs_ 36 0) (by kernel_rfl) rfl (by kernel_rfl) ⟨(blk_cell BK267.out 0).trans rfl, (blk_cell BK267.out 1).trans rfl, (blk_cell BK267.out 2).trans rfl, (blk_cell BK267.out 3).trans rfl, (blk_cell BK267.out 4).trans rfl⟩ (fun hHeld => ?_); refine with_tabW spec_l12ItemOk.tab1 spec_l12ItemOk.bits1 (fun HT_ HW_ => ?_)
 generalize w22.drew = w23 at BK267 HB hHeld ⊢
 refine pS_ 0 ?_
 refine t5_ 1 hHeld ?_
 refine oS_ 2 (fun K hK => ?_)
 refine gS_ Tryz.func43 #[.string a0_0] ?_
 with_reducible refine (spec_AddressOk.calls k a0_0 true _ A3.out).mono ?_
 rintro e w' ⟨rfl, ⟨nd, rfl⟩⟩
 refine ⟨_, rfl, ?_⟩
 refine hK.out _ _ ⟨(blk_cell BK267.out 0).trans rfl, (blk_cell BK267.out 1).trans rfl, (blk_cell BK267.out 2).trans rfl, (blk_cell BK267.out 3).trans rfl, (blk_cell BK267.out 4).trans rfl⟩ (fun hHeld => ?_)
 clear hK K
 refine nS_ 7 ?_
 refine pS_ 3 ?_
 refine pS_ 4 ?_
 refine t5_ 5 hHeld ?_
 refine oS_ 6 (fun K hK => ?_)
 refine gS_ Tryz.func44 #[.slice A0_4 l0_4.length c0_4] ?_
 with_reducible refine (spec_TreeOk.calls k _ _ l0_4 true _ ?side1 ?side2 A5.out).mono ?_
 (case side1 => repeat (first | exact (Kd.C_below HR0_4.out (bw1_ HB GE267)) | (with_reducible refine Kd.C_alloc ?_ _) | (with_reducible refine Kd.C_drewN ?_ _) | (with_reducible refine Kd.C_drew ?_)))
 (case side2 => exact HC0_4.out)
 rintro e w24 ⟨rfl, hb⟩
 refine ⟨_, rfl, ?_⟩
 replace BK267 := Aside0.mk (blk_below (bk_ BK267) hb)
 replace HB := Aside0.mk (below_step (bw1_ HB GE267) hb)
 (try clear hb)
 (try clear hb2)
 (try clear hk)
 (try clear hi)
 refine hK.out _ _ ⟨(blk_cell BK267.out 0).trans rfl, (blk_cell BK267.out 1).trans rfl, (blk_cell BK267.out 2).trans rfl, (blk_cell BK267.out 3).trans rfl, (blk_cell BK267.out 4).trans rfl⟩ (fun hHeld => ?_)
 clear hK K
 refine nS_ 11 ?_
 refine pS_ 7 ?_
 refine pS_ 8 ?_
 refine pS_ 9 ?_
 refine pS_ 11 ?_
 refine t5_ 10 hHeld ?_
 refine t5_ 12 hHeld ?_
 refine oS_ 13 (fun K hK => ?_)
 refine gS_ Tryz.func73 #[.slice A0_4 l0_4.length c0_4] ?_
 with_reducible refine (spec_TreeSum.calls k _ _ l0_4 t270 _ ?side1 ?side2 A7.out).mono ?_
 (case side1 => exact cS_ HR0_4 HB)
 (case side2 => exact HC0_4.out)
 rintro e w25 ⟨rfl, hb⟩
 refine ⟨_, rfl, ?_⟩
 replace BK267 := Aside0.mk (blk_below (bk_ BK267) hb)
 replace HB := Aside0.mk (below_step (bw1_ HB GE267) hb)
 (try clear hb)
 (try clear hb2)
 (try clear hk)
 (try clear hi)
 refine hK.out _ _ ⟨(blk_cell BK267.out 0).trans rfl, (blk_cell BK267.out 1).trans rfl, (blk_cell BK267.out 2).trans rfl, (blk_cell BK267.out 3).trans rfl, (blk_cell BK267.out 4).trans rfl⟩ (fun hHeld => ?_)
 clear hK K
 refine nS_ 18 ?_
 refine pS_ 14 ?_
 refine pS_ 15 ?_
 refine pS_ 16 ?_
 refine pS_ 17 ?_
 refine t5_ 18 hHeld ?_
 refine pS_ 19 ?_
 refine pS_ 20 ?_
 refine pS_ 21 ?_
 refine t5_ 22 hHeld ?_
 refine oS_ 23 (fun K hK => ?_)
 refine gS_ Tryz.func43 #[.string a0_3] ?_
 with_reducible refine (spec_AddressOk.calls k a0_3 true _ A18.out).mono ?_
 rintro e w' ⟨rfl, ⟨nd, rfl⟩⟩
 refine ⟨_, rfl, ?_⟩
 refine hK.out _ _ ⟨(blk_cell BK267.out 0).trans rfl, (blk_cell BK267.out 1).trans rfl, (blk_cell BK267.out 2).trans rfl, (blk_cell BK267.out 3).trans rfl, (blk_cell BK267.out 4).trans rfl⟩ (fun hHeld => ?_)
 clear hK K
 refine nS_ 28 ?_
 refine pS_ 24 ?_
 refine pS_ 25 ?_
 refine pS_ 26 ?_
 refine pS_ 27 ?_
 refine pS_ 29 ?_
 refine pS_ 31 ?_
 refine t5_ 28 hHeld ?_
 refine t5_ 30 hHeld ?_
 refine oS_ 32 (fun K hK => ?_)
 refine gS_ Tryz.func74 #[.slice A0_4 l0_4.length c0_4, .slice A1 l1.length c1] ?_
 with_reducible refine (spec_l10Refs.calls k _ _ l0_4 _ _ l1 t276 _ ?side1 ?side2 ?side3 ?side4 A20.out).mono ?_
 (case side1 => repeat (first | exact (Kd.C_below HR0_4.out (bw1_ HB GE267)) | (with_reducible refine Kd.C_alloc ?_ _) | (with_reducible refine Kd.C_drewN ?_ _) | (with_reducible refine Kd.C_drew ?_)))
 (case side2 => exact HC0_4.out)
 (case side3 => repeat (first | exact (Kd.C_below HR1.out (bw1_ HB GE267)) | (with_reducible refine Kd.C_alloc ?_ _) | (with_reducible refine Kd.C_drewN ?_ _) | (with_reducible refine Kd.C_drew ?_)))
 (case side4 => exact HC1.out)
 rintro e w26 ⟨v277, rfl, ho0, hb⟩
 refine ⟨_, rfl, ?_⟩
 have HO278 := Aside0.mk (Kd.R_lower ho0 (below_size (bw1_ HB GE267)))
 replace BK267 := Aside0.mk (blk_below (bk_ BK267) hb)
 replace HB := Aside0.mk (below_step (bw1_ HB GE267) hb)
 (try clear hb)
 (try clear hb2)
 (try clear hk)
 (try clear hi)
 (try clear ho0)
 obtain ⟨Ao27, co27, eo27⟩ := Kd.R_slice HO278.out
 (first | subst eo27 | (injection eo27 with f1_ f2_ f3_; have f4_ := f1_.symm; have f5_ := f3_.symm; clear f1_ f2_ f3_; subst f4_; subst f5_))
 refine hK.out _ _ ⟨(blk_cell BK267.out 0).trans rfl, (blk_cell BK267.out 1).trans rfl, (blk_cell BK267.out 2).trans rfl, (blk_cell BK267.out 3).trans rfl, (blk_cell BK267.out 4).trans rfl⟩ (fun hHeld => ?_)
 clear hK K
 refine nS_ 37 ?_
 refine oS_ 33 (fun K hK => ?_)
 refine gS_ Tryz.func84 #[.slice A0_2 l0_2.length c0_2, .slice Ao27 t276.length co27] ?_
 with_reducible refine (spec_l12SameTexts.calls k _ _ l0_2 _ _ t276 t279 _ ?side1 ?side2 ?side3 ?side4 A21.out).mono ?_
 (case side1 => exact cS_ HR0_2 HB)
 (case side2 => exact HC0_2.out)
 (case side3 => repeat (first | exact (Kd.R_reads' HO278.out).2.2 | (with_reducible refine Kd.C_alloc ?_ _) | (with_reducible refine Kd.C_drewN ?_ _) | (with_reducible refine Kd.C_drew ?_)))
 (case side4 => exact (Kd.R_reads' HO278.out).2.1)
 rintro e w' ⟨rfl, ⟨nd, rfl⟩⟩
 refine ⟨_, rfl, ?_⟩
 refine hK.out _ _ ⟨(blk_cell BK267.out 0).trans rfl, (blk_cell BK267.out 1).trans rfl, (blk_cell BK267.out 2).trans rfl, (blk_cell BK267.out 3).trans rfl, (blk_cell BK267.out 4).trans rfl⟩ (fun hHeld => ?_)
 clear hK K
 refine nS_ 38 ?_
 refine pS_ 34 ?_
 refine pS_ 35 ?_
 refine done_ (done_of HT_.out (by kernel_rfl)) ?_
 try go_wp2
 go_ret
 exact ⟨eR_, bw1_ HB GE267⟩}
 {
 replace c19 := Bool.eq_false_iff.mpr c19
 subst c19
 rw [if_neg (show ¬ (false = true) by decide)] at H
 obtain rfl := Option.some.inj H
 go_enter Tryz.func64, Tryz.ntmps64
 try go_wp2_with (first | ((with_reducible refine gate_dst (N := 2) rfl ?_); refine bE_ 2 #[.string a0_0, .string a0_1, .slice A0_2 l0_2.length c0_2, .string a0_3, .slice A0_4 l0_4.length c0_4] 55 ?_; intro gb267 hg w28 hbox hb; have BK267 := Aside0.mk (hbox); have GW267 := Aside0.mk (ge_ hg (bw_ HB)); have GE267 := Aside0.mk (ge_ hg (bw_ HB)); replace HB := Aside0.mk (below_step (bw_ HB) hb); clear hb hbox hg))
 replace BK267 := Aside0.mk (blk_drew BK267.out)
 replace HB := Aside0.mk (below_drew1 HB.out)
 refine start_ (n := 36) (S := fun w' => w'.cell? ⟨gb267, 0, none⟩ = some (.string a0_0) ∧ w'.cell? ⟨gb267, 1, none⟩ = some (.string a0_1) ∧ w'.cell? ⟨gb267, 2, none⟩ = some (.slice A0_2 l0_2.length c0_2) ∧ w'.cell? ⟨gb267, 3, none⟩ = some (.string a0_3) ∧ w'.cell? ⟨gb267, 4, none⟩ = some (.slice A0_4 l0_4.length c0_4)) (ds := []) (bs_ 36 0) (by kernel_rfl) rfl (by kernel_rfl) ⟨(blk_cell BK267.out 0).trans rfl, (blk_cell BK267.out 1).trans rfl, (blk_cell BK267.out 2).trans rfl, (blk_cell BK267.out 3).trans rfl, (blk_cell BK267.out 4).trans rfl⟩ (fun hHeld => ?_); refine with_tabW spec_l12ItemOk.tab1 spec_l12ItemOk.bits1 (fun HT_ HW_ => ?_)
 generalize w28.drew = w29 at BK267 HB hHeld ⊢
 refine pS_ 0 ?_
 refine t5_ 1 hHeld ?_
 refine oS_ 2 (fun K hK => ?_)
 refine gS_ Tryz.func43 #[.string a0_0] ?_
 with_reducible refine (spec_AddressOk.calls k a0_0 true _ A3.out).mono ?_
 rintro e w' ⟨rfl, ⟨nd, rfl⟩⟩
 refine ⟨_, rfl, ?_⟩
 refine hK.out _ _ ⟨(blk_cell BK267.out 0).trans rfl, (blk_cell BK267.out 1).trans rfl, (blk_cell BK267.out 2).trans rfl, (blk_cell BK267.out 3).trans rfl, (blk_cell BK267.out 4).trans rfl⟩ (fun hHeld => ?_)
 clear hK K
 refine nS_ 7 ?_
 refine pS_ 3 ?_
 refine pS_ 4 ?_
 refine t5_ 5 hHeld ?_
 refine oS_ 6 (fun K hK => ?_)
 refine gS_ Tryz.func44 #[.slice A0_4 l0_4.length c0_4] ?_
 with_reducible refine (spec_TreeOk.calls k _ _ l0_4 true _ ?side1 ?side2 A5.out).mono ?_
 (case side1 => repeat (first | exact (Kd.C_below HR0_4.out (bw1_ HB GE267)) | (with_reducible refine Kd.C_alloc ?_ _) | (with_reducible refine Kd.C_drewN ?_ _) | (with_reducible refine Kd.C_drew ?_)))
 (case side2 => exact HC0_4.out)
 rintro e w30 ⟨rfl, hb⟩
 refine ⟨_, rfl, ?_⟩
 replace BK267 := Aside0.mk (blk_below (bk_ BK267) hb)
 replace HB := Aside0.mk (below_step (bw1_ HB GE267) hb)
 (try clear hb)
 (try clear hb2)
 (try clear hk)
 (try clear hi)
 refine hK.out _ _ ⟨(blk_cell BK267.out 0).trans rfl, (blk_cell BK267.out 1).trans rfl, (blk_cell BK267.out 2).trans rfl, (blk_cell BK267.out 3).trans rfl, (blk_cell BK267.out 4).trans rfl⟩ (fun hHeld => ?_)
 clear hK K
 refine nS_ 11 ?_
 refine pS_ 7 ?_
 refine pS_ 8 ?_
 refine pS_ 9 ?_
 refine pS_ 11 ?_
 refine t5_ 10 hHeld ?_
 refine t5_ 12 hHeld ?_
 refine oS_ 13 (fun K hK => ?_)
 refine gS_ Tryz.func73 #[.slice A0_4 l0_4.length c0_4] ?_
 with_reducible refine (spec_TreeSum.calls k _ _ l0_4 t270 _ ?side1 ?side2 A7.out).mono ?_
 (case side1 => exact cS_ HR0_4 HB)
 (case side2 => exact HC0_4.out)
 rintro e w31 ⟨rfl, hb⟩
 refine ⟨_, rfl, ?_⟩
 replace BK267 := Aside0.mk (blk_below (bk_ BK267) hb)
 replace HB := Aside0.mk (below_step (bw1_ HB GE267) hb)
 (try clear hb)
 (try clear hb2)
 (try clear hk)
 (try clear hi)
 refine hK.out _ _ ⟨(blk_cell BK267.out 0).trans rfl, (blk_cell BK267.out 1).trans rfl, (blk_cell BK267.out 2).trans rfl, (blk_cell BK267.out 3).trans rfl, (blk_cell BK267.out 4).trans rfl⟩ (fun hHeld => ?_)
 clear hK K
 refine nS_ 18 ?_
 refine pS_ 14 ?_
 refine pS_ 15 ?_
 refine pS_ 16 ?_
 refine pS_ 17 ?_
 refine t5_ 18 hHeld ?_
 refine pS_ 19 ?_
 refine pS_ 20 ?_
 refine pS_ 21 ?_
 refine t5_ 22 hHeld ?_
 refine oS_ 23 (fun K hK => ?_)
 refine gS_ Tryz.func43 #[.string a0_3] ?_
 with_reducible refine (spec_AddressOk.calls k a0_3 false _ A18.out).mono ?_
 rintro e w' ⟨rfl, ⟨nd, rfl⟩⟩
 refine ⟨_, rfl, ?_⟩
 refine hK.out _ _ ⟨(blk_cell BK267.out 0).trans rfl, (blk_cell BK267.out 1).trans rfl, (blk_cell BK267.out 2).trans rfl, (blk_cell BK267.out 3).trans rfl, (blk_cell BK267.out 4).trans rfl⟩ (fun hHeld => ?_)
 clear hK K
 refine nS_ 28 ?_
 refine pS_ 24 ?_
 refine pS_ 25 ?_
 refine pS_ 26 ?_
 refine pU_ 27 ?_
 refine pU_ 28 ?_
 refine pU_ 29 ?_
 refine pU_ 30 ?_
 refine pU_ 31 ?_
 refine pU_ 32 ?_
 refine pU_ 33 ?_
 refine pS_ 34 ?_
 refine pS_ 35 ?_
 refine done_ (done_of HT_.out (by kernel_rfl)) ?_
 try go_wp2
 go_ret
 exact ⟨eR_, bw1_ HB GE267⟩}}}
 {
 rw [if_neg c8] at H
 have c8b0 : (a0_1.toList == t270.toList) = false := beq_eq_false_iff_ne.mpr c8
 have c8b1 : (a0_1.toList != t270.toList) = true := bne_iff_ne.mpr c8
 obtain rfl := Option.some.inj H
 go_enter Tryz.func64, Tryz.ntmps64
 try go_wp2_with (first | ((with_reducible refine gate_dst (N := 2) rfl ?_); refine bE_ 2 #[.string a0_0, .string a0_1, .slice A0_2 l0_2.length c0_2, .string a0_3, .slice A0_4 l0_4.length c0_4] 55 ?_; intro gb267 hg w32 hbox hb; have BK267 := Aside0.mk (hbox); have GW267 := Aside0.mk (ge_ hg (bw_ HB)); have GE267 := Aside0.mk (ge_ hg (bw_ HB)); replace HB := Aside0.mk (below_step (bw_ HB) hb); clear hb hbox hg))
 replace BK267 := Aside0.mk (blk_drew BK267.out)
 replace HB := Aside0.mk (below_drew1 HB.out)
 refine start_ (n := 36) (S := fun w' => w'.cell? ⟨gb267, 0, none⟩ = some (.string a0_0) ∧ w'.cell? ⟨gb267, 1, none⟩ = some (.string a0_1) ∧ w'.cell? ⟨gb267, 2, none⟩ = some (.slice A0_2 l0_2.length c0_2) ∧ w'.cell? ⟨gb267, 3, none⟩ = some (.string a0_3) ∧ w'.cell? ⟨gb267, 4, none⟩ = some (.slice A0_4 l0_4.length c0_4)) (ds := []) (bs_ 36 0) (by kernel_rfl) rfl (by kernel_rfl) ⟨(blk_cell BK267.out 0).trans rfl, (blk_cell BK267.out 1).trans rfl, (blk_cell BK267.out 2).trans rfl, (blk_cell BK267.out 3).trans rfl, (blk_cell BK267.out 4).trans rfl⟩ (fun hHeld => ?_); refine with_tabW spec_l12ItemOk.tab1 spec_l12ItemOk.bits1 (fun HT_ HW_ => ?_)
 generalize w32.drew = w33 at BK267 HB hHeld ⊢
 refine pS_ 0 ?_
 refine t5_ 1 hHeld ?_
 refine oS_ 2 (fun K hK => ?_)
 refine gS_ Tryz.func43 #[.string a0_0] ?_
 with_reducible refine (spec_AddressOk.calls k a0_0 true _ A3.out).mono ?_
 rintro e w' ⟨rfl, ⟨nd, rfl⟩⟩
 refine ⟨_, rfl, ?_⟩
 refine hK.out _ _ ⟨(blk_cell BK267.out 0).trans rfl, (blk_cell BK267.out 1).trans rfl, (blk_cell BK267.out 2).trans rfl, (blk_cell BK267.out 3).trans rfl, (blk_cell BK267.out 4).trans rfl⟩ (fun hHeld => ?_)
 clear hK K
 refine nS_ 7 ?_
 refine pS_ 3 ?_
 refine pS_ 4 ?_
 refine t5_ 5 hHeld ?_
 refine oS_ 6 (fun K hK => ?_)
 refine gS_ Tryz.func44 #[.slice A0_4 l0_4.length c0_4] ?_
 with_reducible refine (spec_TreeOk.calls k _ _ l0_4 true _ ?side1 ?side2 A5.out).mono ?_
 (case side1 => repeat (first | exact (Kd.C_below HR0_4.out (bw1_ HB GE267)) | (with_reducible refine Kd.C_alloc ?_ _) | (with_reducible refine Kd.C_drewN ?_ _) | (with_reducible refine Kd.C_drew ?_)))
 (case side2 => exact HC0_4.out)
 rintro e w34 ⟨rfl, hb⟩
 refine ⟨_, rfl, ?_⟩
 replace BK267 := Aside0.mk (blk_below (bk_ BK267) hb)
 replace HB := Aside0.mk (below_step (bw1_ HB GE267) hb)
 (try clear hb)
 (try clear hb2)
 (try clear hk)
 (try clear hi)
 refine hK.out _ _ ⟨(blk_cell BK267.out 0).trans rfl, (blk_cell BK267.out 1).trans rfl, (blk_cell BK267.out 2).trans rfl, (blk_cell BK267.out 3).trans rfl, (blk_cell BK267.out 4).trans rfl⟩ (fun hHeld => ?_)
 clear hK K
 refine nS_ 11 ?_
 refine pS_ 7 ?_
 refine pS_ 8 ?_
 refine pS_ 9 ?_
 refine pS_ 11 ?_
 refine t5_ 10 hHeld ?_
 refine t5_ 12 hHeld ?_
 refine oS_ 13 (fun K hK => ?_)
 refine gS_ Tryz.func73 #[.slice A0_4 l0_4.length c0_4] ?_
 with_reducible refine (spec_TreeSum.calls k _ _ l0_4 t270 _ ?side1 ?side2 A7.out).mono ?_
 (case side1 => exact cS_ HR0_4 HB)
 (case side2 => exact HC0_4.out)
 rintro e w35 ⟨rfl, hb⟩
 refine ⟨_, rfl, ?_⟩
 replace BK267 := Aside0.mk (blk_below (bk_ BK267) hb)
 replace HB := Aside0.mk (below_step (bw1_ HB GE267) hb)
 (try clear hb)
 (try clear hb2)
 (try clear hk)
 (try clear hi)
 refine hK.out _ _ ⟨(blk_cell BK267.out 0).trans rfl, (blk_cell BK267.out 1).trans rfl, (blk_cell BK267.out 2).trans rfl, (blk_cell BK267.out 3).trans rfl, (blk_cell BK267.out 4).trans rfl⟩ (fun hHeld => ?_)
 clear hK K
 refine nS_ 18 ?_
 refine pS_ 14 ?_
 refine pS_ 15 ?_
 refine pS_ 16 ?_
 refine pU_ 17 ?_
 refine pU_ 18 ?_
 refine pU_ 19 ?_
 refine pU_ 20 ?_
 refine pU_ 21 ?_
 refine pU_ 22 ?_
 refine pU_ 23 ?_
 refine pU_ 24 ?_
 refine pS_ 25 ?_
 refine pS_ 26 ?_
 refine pU_ 27 ?_
 refine pU_ 28 ?_
 refine pU_ 29 ?_
 refine pU_ 30 ?_
 refine pU_ 31 ?_
 refine pU_ 32 ?_
 refine pU_ 33 ?_
 refine pS_ 34 ?_
 refine pS_ 35 ?_
 refine done_ (done_of HT_.out (by kernel_rfl)) ?_
 try go_wp2
 go_ret
 exact ⟨eR_, bw1_ HB GE267⟩}}
 {
 replace c6 := Bool.eq_false_iff.mpr c6
 subst c6
 rw [if_neg (show ¬ (false = true) by decide)] at H
 obtain rfl := Option.some.inj H
 go_enter Tryz.func64, Tryz.ntmps64
 try go_wp2_with (first | ((with_reducible refine gate_dst (N := 2) rfl ?_); refine bE_ 2 #[.string a0_0, .string a0_1, .slice A0_2 l0_2.length c0_2, .string a0_3, .slice A0_4 l0_4.length c0_4] 55 ?_; intro gb267 hg w36 hbox hb; have BK267 := Aside0.mk (hbox); have GW267 := Aside0.mk (ge_ hg (bw_ HB)); have GE267 := Aside0.mk (ge_ hg (bw_ HB)); replace HB := Aside0.mk (below_step (bw_ HB) hb); clear hb hbox hg))
 replace BK267 := Aside0.mk (blk_drew BK267.out)
 replace HB := Aside0.mk (below_drew1 HB.out)
 refine start_ (n := 36) (S := fun w' => w'.cell? ⟨gb267, 0, none⟩ = some (.string a0_0) ∧ w'.cell? ⟨gb267, 1, none⟩ = some (.string a0_1) ∧ w'.cell? ⟨gb267, 2, none⟩ = some (.slice A0_2 l0_2.length c0_2) ∧ w'.cell? ⟨gb267, 3, none⟩ = some (.string a0_3) ∧ w'.cell? ⟨gb267, 4, none⟩ = some (.slice A0_4 l0_4.length c0_4)) (ds := []) (bs_ 36 0) (by kernel_rfl) rfl (by kernel_rfl) ⟨(blk_cell BK267.out 0).trans rfl, (blk_cell BK267.out 1).trans rfl, (blk_cell BK267.out 2).trans rfl, (blk_cell BK267.out 3).trans rfl, (blk_cell BK267.out 4).trans rfl⟩ (fun hHeld => ?_); refine with_tabW spec_l12ItemOk.tab1 spec_l12ItemOk.bits1 (fun HT_ HW_ => ?_)
 generalize w36.drew = w37 at BK267 HB hHeld ⊢
 refine pS_ 0 ?_
 refine t5_ 1 hHeld ?_
 refine oS_ 2 (fun K hK => ?_)
 refine gS_ Tryz.func43 #[.string a0_0] ?_
 with_reducible refine (spec_AddressOk.calls k a0_0 true _ A3.out).mono ?_
 rintro e w' ⟨rfl, ⟨nd, rfl⟩⟩
 refine ⟨_, rfl, ?_⟩
 refine hK.out _ _ ⟨(blk_cell BK267.out 0).trans rfl, (blk_cell BK267.out 1).trans rfl, (blk_cell BK267.out 2).trans rfl, (blk_cell BK267.out 3).trans rfl, (blk_cell BK267.out 4).trans rfl⟩ (fun hHeld => ?_)
 clear hK K
 refine nS_ 7 ?_
 refine pS_ 3 ?_
 refine pS_ 4 ?_
 refine t5_ 5 hHeld ?_
 refine oS_ 6 (fun K hK => ?_)
 refine gS_ Tryz.func44 #[.slice A0_4 l0_4.length c0_4] ?_
 with_reducible refine (spec_TreeOk.calls k _ _ l0_4 false _ ?side1 ?side2 A5.out).mono ?_
 (case side1 => repeat (first | exact (Kd.C_below HR0_4.out (bw1_ HB GE267)) | (with_reducible refine Kd.C_alloc ?_ _) | (with_reducible refine Kd.C_drewN ?_ _) | (with_reducible refine Kd.C_drew ?_)))
 (case side2 => exact HC0_4.out)
 rintro e w38 ⟨rfl, hb⟩
 refine ⟨_, rfl, ?_⟩
 replace BK267 := Aside0.mk (blk_below (bk_ BK267) hb)
 replace HB := Aside0.mk (below_step (bw1_ HB GE267) hb)
 (try clear hb)
 (try clear hb2)
 (try clear hk)
 (try clear hi)
 refine hK.out _ _ ⟨(blk_cell BK267.out 0).trans rfl, (blk_cell BK267.out 1).trans rfl, (blk_cell BK267.out 2).trans rfl, (blk_cell BK267.out 3).trans rfl, (blk_cell BK267.out 4).trans rfl⟩ (fun hHeld => ?_)
 clear hK K
 refine nS_ 11 ?_
 refine pS_ 7 ?_
 refine pS_ 8 ?_
 refine pU_ 9 ?_
 refine pU_ 10 ?_
 refine pU_ 11 ?_
 refine pU_ 12 ?_
 refine pU_ 13 ?_
 refine pU_ 14 ?_
 refine pS_ 15 ?_
 refine pS_ 16 ?_
 refine pU_ 17 ?_
 refine pU_ 18 ?_
 refine pU_ 19 ?_
 refine pU_ 20 ?_
 refine pU_ 21 ?_
 refine pU_ 22 ?_
 refine pU_ 23 ?_
 refine pU_ 24 ?_
 refine pS_ 25 ?_
 refine pS_ 26 ?_
 refine pU_ 27 ?_
 refine pU_ 28 ?_
 refine pU_ 29 ?_
 refine pU_ 30 ?_
 refine pU_ 31 ?_
 refine pU_ 32 ?_
 refine pU_ 33 ?_
 refine pS_ 34 ?_
 refine pS_ 35 ?_
 refine done_ (done_of HT_.out (by kernel_rfl)) ?_
 try go_wp2
 go_ret
 exact ⟨eR_, bw1_ HB GE267⟩}}
 {
 replace c4 := Bool.eq_false_iff.mpr c4
 subst c4
 rw [if_neg (show ¬ (false = true) by decide)] at H
 obtain rfl := Option.some.inj H
 go_enter Tryz.func64, Tryz.ntmps64
 try go_wp2_with (first | ((with_reducible refine gate_dst (N := 2) rfl ?_); refine bE_ 2 #[.string a0_0, .string a0_1, .slice A0_2 l0_2.length c0_2, .string a0_3, .slice A0_4 l0_4.length c0_4] 55 ?_; intro gb267 hg w39 hbox hb; have BK267 := Aside0.mk (hbox); have GW267 := Aside0.mk (ge_ hg (bw_ HB)); have GE267 := Aside0.mk (ge_ hg (bw_ HB)); replace HB := Aside0.mk (below_step (bw_ HB) hb); clear hb hbox hg))
 replace BK267 := Aside0.mk (blk_drew BK267.out)
 replace HB := Aside0.mk (below_drew1 HB.out)
 refine start_ (n := 36) (S := fun w' => w'.cell? ⟨gb267, 0, none⟩ = some (.string a0_0) ∧ w'.cell? ⟨gb267, 1, none⟩ = some (.string a0_1) ∧ w'.cell? ⟨gb267, 2, none⟩ = some (.slice A0_2 l0_2.length c0_2) ∧ w'.cell? ⟨gb267, 3, none⟩ = some (.string a0_3) ∧ w'.cell? ⟨gb267, 4, none⟩ = some (.slice A0_4 l0_4.length c0_4)) (ds := []) (bs_ 36 0) (by kernel_rfl) rfl (by kernel_rfl) ⟨(blk_cell BK267.out 0).trans rfl, (blk_cell BK267.out 1).trans rfl, (blk_cell BK267.out 2).trans rfl, (blk_cell BK267.out 3).trans rfl, (blk_cell BK267.out 4).trans rfl⟩ (fun hHeld => ?_); refine with_tabW spec_l12ItemOk.tab1 spec_l12ItemOk.bits1 (fun HT_ HW_ => ?_)
 generalize w39.drew = w40 at BK267 HB hHeld ⊢
 refine pS_ 0 ?_
 refine t5_ 1 hHeld ?_
 refine oS_ 2 (fun K hK => ?_)
 refine gS_ Tryz.func43 #[.string a0_0] ?_
 with_reducible refine (spec_AddressOk.calls k a0_0 false _ A3.out).mono ?_
 rintro e w' ⟨rfl, ⟨nd, rfl⟩⟩
 refine ⟨_, rfl, ?_⟩
 refine hK.out _ _ ⟨(blk_cell BK267.out 0).trans rfl, (blk_cell BK267.out 1).trans rfl, (blk_cell BK267.out 2).trans rfl, (blk_cell BK267.out 3).trans rfl, (blk_cell BK267.out 4).trans rfl⟩ (fun hHeld => ?_)
 clear hK K
 refine nS_ 7 ?_
 refine pS_ 3 ?_
 refine pU_ 4 ?_
 refine pU_ 5 ?_
 refine pU_ 6 ?_
 refine pS_ 7 ?_
 refine pS_ 8 ?_
 refine pU_ 9 ?_
 refine pU_ 10 ?_
 refine pU_ 11 ?_
 refine pU_ 12 ?_
 refine pU_ 13 ?_
 refine pU_ 14 ?_
 refine pS_ 15 ?_
 refine pS_ 16 ?_
 refine pU_ 17 ?_
 refine pU_ 18 ?_
 refine pU_ 19 ?_
 refine pU_ 20 ?_
 refine pU_ 21 ?_
 refine pU_ 22 ?_
 refine pU_ 23 ?_
 refine pU_ 24 ?_
 refine pS_ 25 ?_
 refine pS_ 26 ?_
 refine pU_ 27 ?_
 refine pU_ 28 ?_
 refine pU_ 29 ?_
 refine pU_ 30 ?_
 refine pU_ 31 ?_
 refine pU_ 32 ?_
 refine pU_ 33 ?_
 refine pS_ 34 ?_
 refine pS_ 35 ?_
 refine done_ (done_of HT_.out (by kernel_rfl)) ?_
 try go_wp2
 go_ret
 exact ⟨eR_, bw1_ HB GE267⟩
}
end Go.Proofs.YtikjbfjnbhaljaaGreatDoor.P
end
