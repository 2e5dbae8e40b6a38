/- Texts of Replace, put together by program. -/
import Derived.Test.YtgghefjkkidaoaaDoorMReplace3
import Derived.Test.YtgghefjkkidaoaaDoorMReplace4

section
namespace Go.Proofs.YtgghefjkkidaoaaDoor.P
open Go.RowKit Go.Proofs.YtgghefjkkidaoaaDoorW.PrintWords Go.Proofs.YtgghefjkkidaoaaDoorW.PrintLast Go.Proofs.YtgghefjkkidaoaaDoorW.PrintMore Go.Proofs.YtgghefjkkidaoaaDoorM
attribute [local go_sem] max2_int min2_int max_two min_two max_three min_three max_four min_four   -- for this text's walks alone
set_option linter.unusedVariables false
set_option linter.unusedSimpArgs false
def laws_eqEntryS.l0 : Nat → List (S47) → List (S47) → Int → Option (Bool)
  | 0, _, _, _ => none
  | k + 1, x0, x1, x5 => if x5 < (x0.length : Int) then (if 0 ≤ x5 then (if x5 < (x1.length : Int) then ((laws_eqEntry.f ((rd_T47 x0 x5).f0) ((rd_T47 x0 x5).f1) ((rd_T47 x0 x5).f2) ((rd_T47 x0 x5).f3) ((rd_T47 x1 x5).f0) ((rd_T47 x1 x5).f1) ((rd_T47 x1 x5).f2) ((rd_T47 x1 x5).f3)).bind fun t287 => (if t287 = true then (laws_eqEntryS.l0 k x0 x1 (wrap64 (x5 + 1))) else (some false))) else (none)) else (none)) else (some true)
def laws_eqEntryS.f (k : Nat) (l0 : List (S47)) (l1 : List (S47)) : Option (Bool) := if (l0.length : Int) = (l1.length : Int) then (laws_eqEntryS.l0 k l0 l1 0) else (some false)
def laws_eqEntryS.T6 : Bool × List (List Nat × List Nat) := (true, [([], []), ([], []), ([0, 1], [0, 1]), ([2], [2]), ([], []), ([], []), ([4, 5], [4, 5]), ([6], [6]), ([3, 7], [3, 7]), ([8], [8])])
def laws_eqEntryS.B6 : List Nat := [0, 0, 3, 7, 0, 0, 48, 112, 255, 511]
theorem laws_eqEntryS.tab6 : rtab .any (opsOf Tryd.f15 6) = laws_eqEntryS.T6 := by kernel_rfl
theorem laws_eqEntryS.bits6 : waitsOk laws_eqEntryS.T6.2 laws_eqEntryS.B6 = true := by kernel_rfl
set_option maxHeartbeats 8000000 in
set_option maxRecDepth 100000 in
theorem laws_eqEntryS.calls (k : Nat) (A0 : Option Addr) (c0 : Nat) (l0 : List (S47)) (A1 : Option Addr) (c1 : Nat) (l1 : List (S47)) (r : Bool) (w : World) (hr0 : Kd.C k47 w A0 l0.length l0) (hc0 : l0.length ≤ c0) (hr1 : Kd.C k47 w A1 l1.length l1) (hc1 : l1.length ≤ c1) (h : laws_eqEntryS.f k l0 l1 = some r) :
    Calls Tryd.prog 15 #[.slice A0 l0.length c0, .slice A1 l1.length c1] w fun e w' => e = .returned (.bool r) ∧ Below w.heap.size w w' := by
  have hu47 := Tryd.underlying47
  have HR0 := Aside0.mk hr0
  have HC0 := Aside0.mk hc0
  clear hr0 hc0
  have HR1 := Aside0.mk hr1
  have HC1 := Aside0.mk hc1
  clear hr1 hc1
  have HB := Aside0.mk (Below.refl w.heap.size w)
  have H : (if (l0.length : Int) = (l1.length : Int) then (laws_eqEntryS.l0 k l0 l1 0) else (some false)) = some r := h
  clear h
  by_cases c3 : (l0.length : Int) = (l1.length : Int)
  · rw [if_pos c3] at H
    have c3b0 : ((l0.length : Int) == (l1.length : Int)) = true := beq_iff_eq.mpr c3
    have c3b1 : ((l0.length : Int) != (l1.length : Int)) = false := bne_eq_false_iff_eq.mpr c3
    have c3b2 : (l0.length == l1.length) = true := by first | simpa using c3 | (simp at c3 ⊢; omega)
    clear c3
    have H' := Aside0.mk H
    clear H
    go_enter Tryd.func15, Tryd.ntmps15
    go_wp2
    go_loopg [5] k (fun kq v5 w' => ∃ (x5_1 : Int), v5 = .int .i64 x5_1 ∧ Aside0 (laws_eqEntryS.l0 kq l0 l1 x5_1 = some r) ∧ Aside0 (kq ≤ k) ∧ Aside0 (Below w.heap.size w w'))
    case atStart => exact ⟨(0), (by first | rfl | (simp; done) | (simp [*]; done)), H', ⟨Nat.le_refl _⟩, ⟨by repeat (first | (with_reducible first | exact HB.out | apply below_alloc | apply pw_below_drewN | apply below_drew1) | exact HB.out)⟩⟩
    case round =>
      clear H'
      try clear c1
      try clear p2
      try clear c3
      try clear c3b0
      try clear c3b1
      try clear c3b2
      obtain ⟨x5_1, rfl, HA, HK1, HB⟩ := hrel
      cases gk with
      | zero => exact absurd HA.out (by simp [laws_eqEntryS.l0])
      | succ k1 =>
        have H := HA.out
        clear HA
        simp only [laws_eqEntryS.l0] at H
        by_cases c4 : x5_1 < (l0.length : Int)
        · rw [if_pos c4] at H
          have c4b0 : decide (x5_1 < (l0.length : Int)) = true := decide_eq_true c4
          clear c4
          by_cases c5 : 0 ≤ x5_1
          · rw [if_pos c5] at H
            have c5b0 : decide (0 ≤ x5_1) = true := decide_eq_true c5
            clear c5
            by_cases c6 : x5_1 < (l1.length : Int)
            · rw [if_pos c6] at H
              have c6b0 : decide (x5_1 < (l1.length : Int)) = true := decide_eq_true c6
              clear c6
              replace H := Option.bind_eq_some_iff.mp H
              obtain ⟨t287, A70, H⟩ := H
              replace H : (if t287 = true then (laws_eqEntryS.l0 k1 l0 l1 (wrap64 (x5_1 + 1))) else (some false)) = some r := H
              have A7 := Aside0.mk A70
              clear A70
              by_cases c8 : t287 = true
              · subst c8
                have H1 : (laws_eqEntryS.l0 k1 l0 l1 (wrap64 (x5_1 + 1))) = some r := by rw [if_pos rfl] at H; exact H
                clear H
                have H := H1
                clear H1
                have H' := Aside0.mk H
                clear H
                try go_wp2
                have n0_ := Aside0.mk (below_drew1 HB.out)
                clear HB
                have HB := n0_
                clear n0_
                have p285 : 0 ≤ (x5_1 : Int) := of_decide_eq_true (by first | (with_reducible assumption) | assumption)
                have q285 : x5_1 < (l0.length : Int) := of_decide_eq_true (by first | (with_reducible assumption) | assumption)
                obtain ⟨ad285, e285, hx285_0, hx285_1, hx285_2, hx285_3⟩ := at_T47 HR0.out x5_1 p285 q285
                have hw285_3 := hx285_3
                have hw285_2 := hx285_2
                have hw285_1 := hx285_1
                have hw285_0 := hx285_0
                cases e285
                replace hx285_0 := (HB.out.cell (World.block_lt_of_cell? w _ hx285_0)).trans hx285_0
                replace hx285_1 := (HB.out.cell (World.block_lt_of_cell? w _ hx285_1)).trans hx285_1
                replace hx285_2 := (HB.out.cell (World.block_lt_of_cell? w _ hx285_2)).trans hx285_2
                replace hx285_3 := (HB.out.cell (World.block_lt_of_cell? w _ hx285_3)).trans hx285_3
                replace p285 := eq_true p285
                replace q285 := eq_true q285
                have p286 : 0 ≤ (x5_1 : Int) := of_decide_eq_true (by first | (with_reducible assumption) | assumption)
                have q286 : x5_1 < (l1.length : Int) := of_decide_eq_true (by first | (with_reducible assumption) | assumption)
                obtain ⟨ad286, e286, hx286_0, hx286_1, hx286_2, hx286_3⟩ := at_T47 HR1.out x5_1 p286 q286
                have hw286_3 := hx286_3
                have hw286_2 := hx286_2
                have hw286_1 := hx286_1
                have hw286_0 := hx286_0
                cases e286
                replace hx286_0 := (HB.out.cell (World.block_lt_of_cell? w _ hx286_0)).trans hx286_0
                replace hx286_1 := (HB.out.cell (World.block_lt_of_cell? w _ hx286_1)).trans hx286_1
                replace hx286_2 := (HB.out.cell (World.block_lt_of_cell? w _ hx286_2)).trans hx286_2
                replace hx286_3 := (HB.out.cell (World.block_lt_of_cell? w _ hx286_3)).trans hx286_3
                replace p286 := eq_true p286
                replace q286 := eq_true q286
                refine start_ (n := 10) (S := fun w' => w'.cell? (ad285.add ((x5_1).toNat * 4)) = some (.string ((rd_T47 l0 x5_1).f0)) ∧ w'.cell? ⟨(ad285.add ((x5_1).toNat * 4)).block, (ad285.add ((x5_1).toNat * 4)).off + 1, none⟩ = some (.int .i64 ((rd_T47 l0 x5_1).f1)) ∧ w'.cell? ⟨(ad285.add ((x5_1).toNat * 4)).block, (ad285.add ((x5_1).toNat * 4)).off + 2, none⟩ = some (.string ((rd_T47 l0 x5_1).f2)) ∧ w'.cell? ⟨(ad285.add ((x5_1).toNat * 4)).block, (ad285.add ((x5_1).toNat * 4)).off + 3, none⟩ = some (.bool ((rd_T47 l0 x5_1).f3)) ∧ w'.cell? (ad286.add ((x5_1).toNat * 4)) = some (.string ((rd_T47 l1 x5_1).f0)) ∧ w'.cell? ⟨(ad286.add ((x5_1).toNat * 4)).block, (ad286.add ((x5_1).toNat * 4)).off + 1, none⟩ = some (.int .i64 ((rd_T47 l1 x5_1).f1)) ∧ w'.cell? ⟨(ad286.add ((x5_1).toNat * 4)).block, (ad286.add ((x5_1).toNat * 4)).off + 2, none⟩ = some (.string ((rd_T47 l1 x5_1).f2)) ∧ w'.cell? ⟨(ad286.add ((x5_1).toNat * 4)).block, (ad286.add ((x5_1).toNat * 4)).off + 3, none⟩ = some (.bool ((rd_T47 l1 x5_1).f3))) (ds := []) #[false, false, false, false, false, false, false, false, false, false] (by kernel_rfl) rfl rfl ⟨((HB.out.cell (World.block_lt_of_cell? w _ hw285_0)).trans hw285_0), ((HB.out.cell (World.block_lt_of_cell? w _ hw285_1)).trans hw285_1), ((HB.out.cell (World.block_lt_of_cell? w _ hw285_2)).trans hw285_2), ((HB.out.cell (World.block_lt_of_cell? w _ hw285_3)).trans hw285_3), ((HB.out.cell (World.block_lt_of_cell? w _ hw286_0)).trans hw286_0), ((HB.out.cell (World.block_lt_of_cell? w _ hw286_1)).trans hw286_1), ((HB.out.cell (World.block_lt_of_cell? w _ hw286_2)).trans hw286_2), ((HB.out.cell (World.block_lt_of_cell? w _ hw286_3)).trans hw286_3)⟩ (fun hHeld => ?_); refine with_tabW laws_eqEntryS.tab6 laws_eqEntryS.bits6 (fun HT_ HW_ => ?_)
                generalize wr.drew = w9 at HB hx285_0 hx285_1 hx285_2 hx285_3 hx286_0 hx286_1 hx286_2 hx286_3 hHeld ⊢
                refine pure_ (i := 0) (N := some 17) (v := ?_) (a' := ?_) #[true, false, false, false, false, false, false, false, false, false] rfl rfl (any_of HT_.out (by kernel_rfl)) (fun _ _ _ h => h) (Or.inl ⟨by rfl, ?_⟩) ?_ ?_
                rotate_left
                · intro w'
                  go_simp
                  with_reducible rfl
                rotate_left
                · simp only [Act.put, List.setIfInBounds_toArray, List.set_cons_zero, List.set_cons_succ, i64_w, i32_w]
                  rfl
                refine pure_ (i := 1) (N := some 18) (v := ?_) (a' := ?_) #[true, true, false, false, false, false, false, false, false, false] rfl rfl (any_of HT_.out (by kernel_rfl)) (fun _ _ _ h => h) (Or.inl ⟨by rfl, ?_⟩) ?_ ?_
                rotate_left
                · intro w'
                  go_simp
                  with_reducible rfl
                rotate_left
                · simp only [Act.put, List.setIfInBounds_toArray, List.set_cons_zero, List.set_cons_succ, i64_w, i32_w]
                  rfl
                refine pure_ (i := 2) (N := some 19) (v := ?_) (a' := ?_) #[true, true, true, false, false, false, false, false, false, false] rfl rfl (any_of HT_.out (by kernel_rfl)) (fun _ _ _ h => h) (Or.inl ⟨by rfl, ?_⟩) ?_ ?_
                rotate_left
                · intro w'
                  go_simp
                  with_reducible rfl
                rotate_left
                · simp only [Act.put, List.setIfInBounds_toArray, List.set_cons_zero, List.set_cons_succ, i64_w, i32_w]
                  rfl
                refine pure_ (i := 4) (N := some 21) (v := ?_) (a' := ?_) #[true, true, true, false, true, false, false, false, false, false] rfl rfl (any_of HT_.out (by kernel_rfl)) (fun _ _ _ h => h) (Or.inl ⟨by rfl, ?_⟩) ?_ ?_
                rotate_left
                · intro w'
                  go_simp
                  with_reducible rfl
                rotate_left
                · simp only [Act.put, List.setIfInBounds_toArray, List.set_cons_zero, List.set_cons_succ, i64_w, i32_w]
                  rfl
                refine pure_ (i := 5) (N := some 22) (v := ?_) (a' := ?_) #[true, true, true, false, true, true, false, false, false, false] rfl rfl (any_of HT_.out (by kernel_rfl)) (fun _ _ _ h => h) (Or.inl ⟨by rfl, ?_⟩) ?_ ?_
                rotate_left
                · intro w'
                  go_simp
                  with_reducible rfl
                rotate_left
                · simp only [Act.put, List.setIfInBounds_toArray, List.set_cons_zero, List.set_cons_succ, i64_w, i32_w]
                  rfl
                refine pure_ (i := 6) (N := some 23) (v := ?_) (a' := ?_) #[true, true, true, false, true, true, true, false, false, false] rfl rfl (any_of HT_.out (by kernel_rfl)) (fun _ _ _ h => h) (Or.inl ⟨by rfl, ?_⟩) ?_ ?_
                rotate_left
                · intro w'
                  go_simp
                  with_reducible rfl
                rotate_left
                · simp only [Act.put, List.setIfInBounds_toArray, List.set_cons_zero, List.set_cons_succ, i64_w, i32_w]
                  rfl
                refine take_ (i := 3) (N := some 20) (v := ?_) (a' := ?_) #[true, true, true, true, true, true, true, false, false, false] rfl rfl (take_ofW HT_.out HW_.out (by kernel_rfl)) (fun _ _ _ h => h) (Or.inl ⟨by rfl, ?_⟩) hHeld ?_ ?_
                rotate_left
                · rintro w' ⟨s0, s1, s2, s3, s4, s5, s6, s7⟩
                  go_simp
                  with_reducible rfl
                rotate_left
                · simp only [Act.put, List.setIfInBounds_toArray, List.set_cons_zero, List.set_cons_succ, i64_w, i32_w]
                  rfl
                refine take_ (i := 7) (N := some 24) (v := ?_) (a' := ?_) #[true, true, true, true, true, true, true, true, false, false] rfl rfl (take_ofW HT_.out HW_.out (by kernel_rfl)) (fun _ _ _ h => h) (Or.inl ⟨by rfl, ?_⟩) hHeld ?_ ?_
                rotate_left
                · rintro w' ⟨s0, s1, s2, s3, s4, s5, s6, s7⟩
                  go_simp
                  with_reducible rfl
                rotate_left
                · simp only [Act.put, List.setIfInBounds_toArray, List.set_cons_zero, List.set_cons_succ, i64_w, i32_w]
                  rfl
                refine one_ (i := 8) (N := some 25) #[true, true, true, true, true, true, true, true, true, false] rfl rfl (one_of HT_.out (by kernel_rfl)) (by decide) (fun K hK => ?_)
                refine goes_ Tryd.func47 (by kernel_rfl) rfl #[.agg #[.string ((rd_T47 l0 x5_1).f0), .int .i64 ((rd_T47 l0 x5_1).f1), .string ((rd_T47 l0 x5_1).f2), .bool ((rd_T47 l0 x5_1).f3)], .agg #[.string ((rd_T47 l1 x5_1).f0), .int .i64 ((rd_T47 l1 x5_1).f1), .string ((rd_T47 l1 x5_1).f2), .bool ((rd_T47 l1 x5_1).f3)]] (by rfl) rfl rfl (by (try simp only [List.map_toArray, List.map_cons, List.map_nil]); first | done | rfl | (simp only [List.length_drop, List.length_take]; rfl)) ?_
                with_reducible refine (laws_eqEntry.calls ((rd_T47 l0 x5_1).f0) ((rd_T47 l0 x5_1).f1) ((rd_T47 l0 x5_1).f2) ((rd_T47 l0 x5_1).f3) ((rd_T47 l1 x5_1).f0) ((rd_T47 l1 x5_1).f1) ((rd_T47 l1 x5_1).f2) ((rd_T47 l1 x5_1).f3) true _ A7.out).mono ?_
                rintro e w10 ⟨rfl, hb⟩
                refine ⟨_, rfl, ?_⟩
                have n0_ := Aside0.mk (below_step (by repeat (first | (with_reducible first | exact HB.out | apply below_alloc | apply pw_below_drewN | apply below_drew1) | exact HB.out)) hb)
                clear HB
                have HB := n0_
                clear n0_
                (try clear hb)
                (try clear hb2)
                (try clear hk)
                (try clear hi)
                refine hK.out _ _ ⟨((HB.out.cell (World.block_lt_of_cell? w _ hw285_0)).trans hw285_0), ((HB.out.cell (World.block_lt_of_cell? w _ hw285_1)).trans hw285_1), ((HB.out.cell (World.block_lt_of_cell? w _ hw285_2)).trans hw285_2), ((HB.out.cell (World.block_lt_of_cell? w _ hw285_3)).trans hw285_3), ((HB.out.cell (World.block_lt_of_cell? w _ hw286_0)).trans hw286_0), ((HB.out.cell (World.block_lt_of_cell? w _ hw286_1)).trans hw286_1), ((HB.out.cell (World.block_lt_of_cell? w _ hw286_2)).trans hw286_2), ((HB.out.cell (World.block_lt_of_cell? w _ hw286_3)).trans hw286_3)⟩ (fun hHeld => ?_)
                clear hK K
                refine norm_ (a' := ?_) ?_ ?_
                rotate_left
                · show Act.put _ (some 25) _ = _
                  simp only [Act.put, List.setIfInBounds_toArray, List.set_cons_zero, List.set_cons_succ, i64_w, i32_w]
                  rfl
                refine pure_ (i := 9) (N := some 26) (v := ?_) (a' := ?_) #[true, true, true, true, true, true, true, true, true, true] rfl rfl (any_of HT_.out (by kernel_rfl)) (fun _ _ _ h => h) (Or.inl ⟨by rfl, ?_⟩) ?_ ?_
                rotate_left
                · intro w'
                  go_simp
                  with_reducible rfl
                rotate_left
                · simp only [Act.put, List.setIfInBounds_toArray, List.set_cons_zero, List.set_cons_succ, i64_w, i32_w]
                  rfl
                refine done_ (done_of HT_.out (by kernel_rfl)) ?_
                try go_wp2
                go_roundg k1
                case measure => have := HK1.out; omega
                case rel => exact ⟨(wrap64 (x5_1 + 1)), (by first | rfl | (simp; done) | (simp [*]; done)), H', ⟨by have := HK1.out; omega⟩, ⟨by repeat (first | (with_reducible first | exact HB.out | apply below_alloc | apply pw_below_drewN | apply below_drew1) | exact HB.out)⟩⟩
              · replace c8 := Bool.eq_false_iff.mpr c8
                subst c8
                have H1 : (some false) = some r := by rw [if_neg (show ¬ (false = true) by decide)] at H; exact H
                clear H
                have H := H1
                clear H1
                obtain rfl := Option.some.inj H
                try go_wp2
                have n0_ := Aside0.mk (below_drew1 HB.out)
                clear HB
                have HB := n0_
                clear n0_
                have p285 : 0 ≤ (x5_1 : Int) := of_decide_eq_true (by first | (with_reducible assumption) | assumption)
                have q285 : x5_1 < (l0.length : Int) := of_decide_eq_true (by first | (with_reducible assumption) | assumption)
                obtain ⟨ad285, e285, hx285_0, hx285_1, hx285_2, hx285_3⟩ := at_T47 HR0.out x5_1 p285 q285
                have hw285_3 := hx285_3
                have hw285_2 := hx285_2
                have hw285_1 := hx285_1
                have hw285_0 := hx285_0
                cases e285
                replace hx285_0 := (HB.out.cell (World.block_lt_of_cell? w _ hx285_0)).trans hx285_0
                replace hx285_1 := (HB.out.cell (World.block_lt_of_cell? w _ hx285_1)).trans hx285_1
                replace hx285_2 := (HB.out.cell (World.block_lt_of_cell? w _ hx285_2)).trans hx285_2
                replace hx285_3 := (HB.out.cell (World.block_lt_of_cell? w _ hx285_3)).trans hx285_3
                replace p285 := eq_true p285
                replace q285 := eq_true q285
                have p286 : 0 ≤ (x5_1 : Int) := of_decide_eq_true (by first | (with_reducible assumption) | assumption)
                have q286 : x5_1 < (l1.length : Int) := of_decide_eq_true (by first | (with_reducible assumption) | assumption)
                obtain ⟨ad286, e286, hx286_0, hx286_1, hx286_2, hx286_3⟩ := at_T47 HR1.out x5_1 p286 q286
                have hw286_3 := hx286_3
                have hw286_2 := hx286_2
                have hw286_1 := hx286_1
                have hw286_0 := hx286_0
                cases e286
                replace hx286_0 := (HB.out.cell (World.block_lt_of_cell? w _ hx286_0)).trans hx286_0
                replace hx286_1 := (HB.out.cell (World.block_lt_of_cell? w _ hx286_1)).trans hx286_1
                replace hx286_2 := (HB.out.cell (World.block_lt_of_cell? w _ hx286_2)).trans hx286_2
                replace hx286_3 := (HB.out.cell (World.block_lt_of_cell? w _ hx286_3)).trans hx286_3
                replace p286 := eq_true p286
                replace q286 := eq_true q286
                refine start_ (n := 10) (S := fun w' => w'.cell? (ad285.add ((x5_1).toNat * 4)) = some (.string ((rd_T47 l0 x5_1).f0)) ∧ w'.cell? ⟨(ad285.add ((x5_1).toNat * 4)).block, (ad285.add ((x5_1).toNat * 4)).off + 1, none⟩ = some (.int .i64 ((rd_T47 l0 x5_1).f1)) ∧ w'.cell? ⟨(ad285.add ((x5_1).toNat * 4)).block, (ad285.add ((x5_1).toNat * 4)).off + 2, none⟩ = some (.string ((rd_T47 l0 x5_1).f2)) ∧ w'.cell? ⟨(ad285.add ((x5_1).toNat * 4)).block, (ad285.add ((x5_1).toNat * 4)).off + 3, none⟩ = some (.bool ((rd_T47 l0 x5_1).f3)) ∧ w'.cell? (ad286.add ((x5_1).toNat * 4)) = some (.string ((rd_T47 l1 x5_1).f0)) ∧ w'.cell? ⟨(ad286.add ((x5_1).toNat * 4)).block, (ad286.add ((x5_1).toNat * 4)).off + 1, none⟩ = some (.int .i64 ((rd_T47 l1 x5_1).f1)) ∧ w'.cell? ⟨(ad286.add ((x5_1).toNat * 4)).block, (ad286.add ((x5_1).toNat * 4)).off + 2, none⟩ = some (.string ((rd_T47 l1 x5_1).f2)) ∧ w'.cell? ⟨(ad286.add ((x5_1).toNat * 4)).block, (ad286.add ((x5_1).toNat * 4)).off + 3, none⟩ = some (.bool ((rd_T47 l1 x5_1).f3))) (ds := []) #[false, false, false, false, false, false, false, false, false, false] (by kernel_rfl) rfl rfl ⟨((HB.out.cell (World.block_lt_of_cell? w _ hw285_0)).trans hw285_0), ((HB.out.cell (World.block_lt_of_cell? w _ hw285_1)).trans hw285_1), ((HB.out.cell (World.block_lt_of_cell? w _ hw285_2)).trans hw285_2), ((HB.out.cell (World.block_lt_of_cell? w _ hw285_3)).trans hw285_3), ((HB.out.cell (World.block_lt_of_cell? w _ hw286_0)).trans hw286_0), ((HB.out.cell (World.block_lt_of_cell? w _ hw286_1)).trans hw286_1), ((HB.out.cell (World.block_lt_of_cell? w _ hw286_2)).trans hw286_2), ((HB.out.cell (World.block_lt_of_cell? w _ hw286_3)).trans hw286_3)⟩ (fun hHeld => ?_); refine with_tabW laws_eqEntryS.tab6 laws_eqEntryS.bits6 (fun HT_ HW_ => ?_)
                generalize wr.drew = w11 at HB hx285_0 hx285_1 hx285_2 hx285_3 hx286_0 hx286_1 hx286_2 hx286_3 hHeld ⊢
                refine pure_ (i := 0) (N := some 17) (v := ?_) (a' := ?_) #[true, false, false, false, false, false, false, false, false, false] rfl rfl (any_of HT_.out (by kernel_rfl)) (fun _ _ _ h => h) (Or.inl ⟨by rfl, ?_⟩) ?_ ?_
                rotate_left
                · intro w'
                  go_simp
                  with_reducible rfl
                rotate_left
                · simp only [Act.put, List.setIfInBounds_toArray, List.set_cons_zero, List.set_cons_succ, i64_w, i32_w]
                  rfl
                refine pure_ (i := 1) (N := some 18) (v := ?_) (a' := ?_) #[true, true, false, false, false, false, false, false, false, false] rfl rfl (any_of HT_.out (by kernel_rfl)) (fun _ _ _ h => h) (Or.inl ⟨by rfl, ?_⟩) ?_ ?_
                rotate_left
                · intro w'
                  go_simp
                  with_reducible rfl
                rotate_left
                · simp only [Act.put, List.setIfInBounds_toArray, List.set_cons_zero, List.set_cons_succ, i64_w, i32_w]
                  rfl
                refine pure_ (i := 2) (N := some 19) (v := ?_) (a' := ?_) #[true, true, true, false, false, false, false, false, false, false] rfl rfl (any_of HT_.out (by kernel_rfl)) (fun _ _ _ h => h) (Or.inl ⟨by rfl, ?_⟩) ?_ ?_
                rotate_left
                · intro w'
                  go_simp
                  with_reducible rfl
                rotate_left
                · simp only [Act.put, List.setIfInBounds_toArray, List.set_cons_zero, List.set_cons_succ, i64_w, i32_w]
                  rfl
                refine pure_ (i := 4) (N := some 21) (v := ?_) (a' := ?_) #[true, true, true, false, true, false, false, false, false, false] rfl rfl (any_of HT_.out (by kernel_rfl)) (fun _ _ _ h => h) (Or.inl ⟨by rfl, ?_⟩) ?_ ?_
                rotate_left
                · intro w'
                  go_simp
                  with_reducible rfl
                rotate_left
                · simp only [Act.put, List.setIfInBounds_toArray, List.set_cons_zero, List.set_cons_succ, i64_w, i32_w]
                  rfl
                refine pure_ (i := 5) (N := some 22) (v := ?_) (a' := ?_) #[true, true, true, false, true, true, false, false, false, false] rfl rfl (any_of HT_.out (by kernel_rfl)) (fun _ _ _ h => h) (Or.inl ⟨by rfl, ?_⟩) ?_ ?_
                rotate_left
                · intro w'
                  go_simp
                  with_reducible rfl
                rotate_left
                · simp only [Act.put, List.setIfInBounds_toArray, List.set_cons_zero, List.set_cons_succ, i64_w, i32_w]
                  rfl
                refine pure_ (i := 6) (N := some 23) (v := ?_) (a' := ?_) #[true, true, true, false, true, true, true, false, false, false] rfl rfl (any_of HT_.out (by kernel_rfl)) (fun _ _ _ h => h) (Or.inl ⟨by rfl, ?_⟩) ?_ ?_
                rotate_left
                · intro w'
                  go_simp
                  with_reducible rfl
                rotate_left
                · simp only [Act.put, List.setIfInBounds_toArray, List.set_cons_zero, List.set_cons_succ, i64_w, i32_w]
                  rfl
                refine take_ (i := 3) (N := some 20) (v := ?_) (a' := ?_) #[true, true, true, true, true, true, true, false, false, false] rfl rfl (take_ofW HT_.out HW_.out (by kernel_rfl)) (fun _ _ _ h => h) (Or.inl ⟨by rfl, ?_⟩) hHeld ?_ ?_
                rotate_left
                · rintro w' ⟨s0, s1, s2, s3, s4, s5, s6, s7⟩
                  go_simp
                  with_reducible rfl
                rotate_left
                · simp only [Act.put, List.setIfInBounds_toArray, List.set_cons_zero, List.set_cons_succ, i64_w, i32_w]
                  rfl
                refine take_ (i := 7) (N := some 24) (v := ?_) (a' := ?_) #[true, true, true, true, true, true, true, true, false, false] rfl rfl (take_ofW HT_.out HW_.out (by kernel_rfl)) (fun _ _ _ h => h) (Or.inl ⟨by rfl, ?_⟩) hHeld ?_ ?_
                rotate_left
                · rintro w' ⟨s0, s1, s2, s3, s4, s5, s6, s7⟩
                  go_simp
                  with_reducible rfl
                rotate_left
                · simp only [Act.put, List.setIfInBounds_toArray, List.set_cons_zero, List.set_cons_succ, i64_w, i32_w]
                  rfl
                refine one_ (i := 8) (N := some 25) #[true, true, true, true, true, true, true, true, true, false] rfl rfl (one_of HT_.out (by kernel_rfl)) (by decide) (fun K hK => ?_)
                refine goes_ Tryd.func47 (by kernel_rfl) rfl #[.agg #[.string ((rd_T47 l0 x5_1).f0), .int .i64 ((rd_T47 l0 x5_1).f1), .string ((rd_T47 l0 x5_1).f2), .bool ((rd_T47 l0 x5_1).f3)], .agg #[.string ((rd_T47 l1 x5_1).f0), .int .i64 ((rd_T47 l1 x5_1).f1), .string ((rd_T47 l1 x5_1).f2), .bool ((rd_T47 l1 x5_1).f3)]] (by rfl) rfl rfl (by (try simp only [List.map_toArray, List.map_cons, List.map_nil]); first | done | rfl | (simp only [List.length_drop, List.length_take]; rfl)) ?_
                with_reducible refine (laws_eqEntry.calls ((rd_T47 l0 x5_1).f0) ((rd_T47 l0 x5_1).f1) ((rd_T47 l0 x5_1).f2) ((rd_T47 l0 x5_1).f3) ((rd_T47 l1 x5_1).f0) ((rd_T47 l1 x5_1).f1) ((rd_T47 l1 x5_1).f2) ((rd_T47 l1 x5_1).f3) false _ A7.out).mono ?_
                rintro e w12 ⟨rfl, hb⟩
                refine ⟨_, rfl, ?_⟩
                have n0_ := Aside0.mk (below_step (by repeat (first | (with_reducible first | exact HB.out | apply below_alloc | apply pw_below_drewN | apply below_drew1) | exact HB.out)) hb)
                clear HB
                have HB := n0_
                clear n0_
                (try clear hb)
                (try clear hb2)
                (try clear hk)
                (try clear hi)
                refine hK.out _ _ ⟨((HB.out.cell (World.block_lt_of_cell? w _ hw285_0)).trans hw285_0), ((HB.out.cell (World.block_lt_of_cell? w _ hw285_1)).trans hw285_1), ((HB.out.cell (World.block_lt_of_cell? w _ hw285_2)).trans hw285_2), ((HB.out.cell (World.block_lt_of_cell? w _ hw285_3)).trans hw285_3), ((HB.out.cell (World.block_lt_of_cell? w _ hw286_0)).trans hw286_0), ((HB.out.cell (World.block_lt_of_cell? w _ hw286_1)).trans hw286_1), ((HB.out.cell (World.block_lt_of_cell? w _ hw286_2)).trans hw286_2), ((HB.out.cell (World.block_lt_of_cell? w _ hw286_3)).trans hw286_3)⟩ (fun hHeld => ?_)
                clear hK K
                refine norm_ (a' := ?_) ?_ ?_
                rotate_left
                · show Act.put _ (some 25) _ = _
                  simp only [Act.put, List.setIfInBounds_toArray, List.set_cons_zero, List.set_cons_succ, i64_w, i32_w]
                  rfl
                refine pure_ (i := 9) (N := some 26) (v := ?_) (a' := ?_) #[true, true, true, true, true, true, true, true, true, true] rfl rfl (any_of HT_.out (by kernel_rfl)) (fun _ _ _ h => h) (Or.inl ⟨by rfl, ?_⟩) ?_ ?_
                rotate_left
                · intro w'
                  go_simp
                  with_reducible rfl
                rotate_left
                · simp only [Act.put, List.setIfInBounds_toArray, List.set_cons_zero, List.set_cons_succ, i64_w, i32_w]
                  rfl
                refine done_ (done_of HT_.out (by kernel_rfl)) ?_
                try go_wp2
                go_ret
                exact ⟨by first | rfl | (simp [errW_none, errW_some] <;> rfl) | (simp [*, errW_none, errW_some] <;> rfl), by repeat (first | (with_reducible first | exact HB.out | apply below_alloc | apply pw_below_drewN | apply below_drew1) | exact HB.out)⟩
            · rw [if_neg c6] at H
              exact absurd H (by simp)
          · rw [if_neg c5] at H
            exact absurd H (by simp)
        · rw [if_neg c4] at H
          have c4b0 : decide (x5_1 < (l0.length : Int)) = false := decide_eq_false c4
          clear c4
          obtain rfl := Option.some.inj H
          go_wp2
          go_ret
          exact ⟨by first | rfl | (simp [errW_none, errW_some] <;> rfl) | (simp [*, errW_none, errW_some] <;> rfl), by repeat (first | (with_reducible first | exact HB.out | apply below_alloc | apply pw_below_drewN | apply below_drew1) | exact HB.out)⟩
  · rw [if_neg c3] at H
    have c3b0 : ((l0.length : Int) == (l1.length : Int)) = false := beq_eq_false_iff_ne.mpr c3
    have c3b1 : ((l0.length : Int) != (l1.length : Int)) = true := bne_iff_ne.mpr c3
    have c3b2 : (l0.length == l1.length) = false := by first | simpa using c3 | (simp at c3 ⊢; omega)
    obtain rfl := Option.some.inj H
    go_enter Tryd.func15, Tryd.ntmps15
    go_wp2
    go_ret
    exact ⟨by first | rfl | (simp [errW_none, errW_some] <;> rfl) | (simp [*, errW_none, errW_some] <;> rfl), by repeat (first | (with_reducible first | exact HB.out | apply below_alloc | apply pw_below_drewN | apply below_drew1) | exact HB.out)⟩
end Go.Proofs.YtgghefjkkidaoaaDoor.P
end

section
namespace Go.Proofs.YtgghefjkkidaoaaDoor.P
open Go.RowKit Go.Proofs.YtgghefjkkidaoaaDoorW.PrintWords Go.Proofs.YtgghefjkkidaoaaDoorW.PrintLast Go.Proofs.YtgghefjkkidaoaaDoorW.PrintMore Go.Proofs.YtgghefjkkidaoaaDoorM
attribute [local go_sem] max2_int min2_int max_two min_two max_three min_three max_four min_four   -- for this text's walks alone
set_option linter.unusedVariables false
set_option linter.unusedSimpArgs false
def laws_markText.l0 : Nat → Int → ByteArray → Option (ByteArray)
  | 0, _, _ => none
  | k + 1, x0, x3 => if x0 > 0 then ((some (([(wrap64 (48 + (Int.tmod x0 10))) % 256] : List Int) : List Int)).bind fun y303 => (if (strOfNums y303).size + x3.size ≤ 9223372036854775807 then (laws_markText.l0 k (wrap64 (Int.tdiv x0 10)) ((strOfNums y303) ++ x3)) else (none))) else (if 1 + x3.size ≤ 9223372036854775807 then (some ((⟨#[109]⟩ : ByteArray) ++ x3)) else (none))
def laws_markText.f (k : Nat) (a0 : Int) : Option (ByteArray) := if a0 ≤ 0 then (some (⟨#[109, 48]⟩ : ByteArray)) else (laws_markText.l0 k a0 (⟨#[]⟩ : ByteArray))
theorem laws_markText.mono_l : ∀ k, (∀ y0 y1, LeO (laws_markText.l0 k y0 y1) (laws_markText.l0 (k + 1) y0 y1))
  | 0 => fun _ _ r h => by simp [laws_markText.l0] at h
  | k + 1 => by
    have ih0 := laws_markText.mono_l k
    · intro y0 y1
      unfold laws_markText.l0
      repeat' first
      | (with_reducible exact ih0 _ _)
      | (with_reducible exact LeO.refl _)
      | (with_reducible exact LeO.none _)
      | (with_reducible refine LeO.ite ?_ ?_)
      | (with_reducible refine LeO.bind ?_ (fun _ => ?_))
      | exact ih0 _ _
      | exact LeO.none _
      | refine LeO.ite ?_ ?_
      | refine LeO.bind ?_ (fun _ => ?_)
theorem laws_markText.mono : ∀ a0 k, LeO (laws_markText.f k a0) (laws_markText.f (k + 1) a0) := by
  intro a0 k
  have ih0 := laws_markText.mono_l k
  unfold laws_markText.f
  repeat' first
      | (with_reducible exact ih0 _ _)
      | (with_reducible exact LeO.refl _)
      | (with_reducible exact LeO.none _)
      | (with_reducible refine LeO.ite ?_ ?_)
      | (with_reducible refine LeO.bind ?_ (fun _ => ?_))
      | exact ih0 _ _
      | exact LeO.none _
      | refine LeO.ite ?_ ?_
      | refine LeO.bind ?_ (fun _ => ?_)
set_option maxHeartbeats 8000000 in
set_option maxRecDepth 100000 in
theorem laws_markText.calls (k : Nat) (a0 : Int) (r : ByteArray) (w : World) (h : laws_markText.f k a0 = some r) :
    Calls Tryd.prog 51 #[.int .i64 a0] w fun e w' => e = .returned (.string r) ∧ Below w.heap.size w w' := by
  have HB := Aside0.mk (Below.refl w.heap.size w)
  have H : (if a0 ≤ 0 then (some (⟨#[109, 48]⟩ : ByteArray)) else (laws_markText.l0 k a0 (⟨#[]⟩ : ByteArray))) = some r := h
  clear h
  by_cases c2 : a0 ≤ 0
  · rw [if_pos c2] at H
    have c2b0 : decide (a0 ≤ 0) = true := decide_eq_true c2
    clear c2
    obtain rfl := Option.some.inj H
    go_enter Tryd.func51, Tryd.ntmps51
    go_wp2
    go_ret
    exact ⟨by first | rfl | (simp [errW_none, errW_some] <;> rfl) | (simp [*, errW_none, errW_some] <;> rfl), by repeat (first | (with_reducible first | exact HB.out | apply below_alloc | apply pw_below_drewN | apply below_drew1) | exact HB.out)⟩
  · rw [if_neg c2] at H
    have c2b0 : decide (a0 ≤ 0) = false := decide_eq_false c2
    clear c2
    have H' := Aside0.mk H
    clear H
    go_enter Tryd.func51, Tryd.ntmps51
    go_wp2
    go_loopg [0, 3] k (fun kq v0 v3 w' => ∃ (x0_1 : Int) (x3_1 : ByteArray), v0 = .int .i64 x0_1 ∧ v3 = .string x3_1 ∧ Aside0 (laws_markText.l0 kq x0_1 x3_1 = some r) ∧ Aside0 (kq ≤ k) ∧ Aside0 (Below w.heap.size w w'))
    case atStart => exact ⟨(a0), ((⟨#[]⟩ : ByteArray)), (by first | rfl | (simp; done) | (simp [*]; done)), (by first | rfl | (simp; done) | (simp [*]; done)), H', ⟨Nat.le_refl _⟩, ⟨by repeat (first | (with_reducible first | exact HB.out | apply below_alloc | apply pw_below_drewN | apply below_drew1) | exact HB.out)⟩⟩
    case round =>
      clear H'
      try clear c2
      try clear c2b0
      try clear p2
      obtain ⟨x0_1, x3_1, rfl, rfl, HA, HK1, HB⟩ := hrel
      cases gk with
      | zero => exact absurd HA.out (by simp [laws_markText.l0])
      | succ k1 =>
        have H := HA.out
        clear HA
        simp only [laws_markText.l0] at H
        by_cases c3 : x0_1 > 0
        · rw [if_pos c3] at H
          have c3b0 : decide (0 < x0_1) = true := decide_eq_true c3
          clear c3
          obtain ⟨y303, hy303⟩ : ∃ y_ : List Int, y_ = (([(wrap64 (48 + (Int.tmod x0_1 10))) % 256] : List Int)) := ⟨_, rfl⟩
          replace H : (if (strOfNums y303).size + x3_1.size ≤ 9223372036854775807 then (laws_markText.l0 k1 (wrap64 (Int.tdiv x0_1 10)) ((strOfNums y303) ++ x3_1)) else (none)) = some r := by first | (rw [hy303]; with_reducible exact H) | (have H2_ := (Option.bind_some _ _).symm.trans H; rw [hy303]; with_reducible exact H2_) | (have H2_ := (Option.bind_some _ _).symm.trans H; with_reducible exact H2_) | with_reducible exact H | (rw [hy303]; exact H) | exact H
          have Ny303 := Aside0.mk hy303
          clear hy303
          by_cases c4 : (strOfNums y303).size + x3_1.size ≤ 9223372036854775807
          · rw [if_pos c4] at H
            have c4b0 := eq_true c4
            have c4b1 : decide ((strOfNums y303).size + x3_1.size ≤ 9223372036854775807) = true := decide_eq_true c4
            try have c4b2 : (9223372036854775807 < (strOfNums y303).size + x3_1.size) = False := eq_false (Nat.not_lt.2 c4)
            have H' := Aside0.mk H
            clear H
            go_wp2_with (first | ((with_reducible refine gate_dst (N := 12) rfl ?_); refine Kd.R_lit (Kd.int .u8) _ 5 ?hg (N := 12) ?hd (xs := ([(wrap64 (48 + (Int.tmod x0_1 10))) % 256] : List Int)) (inner := [.int .u8 ((wrap64 (48 + (Int.tmod x0_1 10))) % 256)]) (ok := fun _ => True) (okp := fun _ => True) ?hr ?hp (fun _ hk => hk) trivial (Below.refl _ _) (Nat.le_refl _) (by simp) ?_; (case hd => rfl); (case hg => rfl); (case hr => first | (go_simp; done) | (go_simp; rfl)); (case hp => exact (Reps.one (show Kd.M (Kd.int .u8) _ _ _ ((wrap64 (48 + (Int.tmod x0_1 10))) % 256) [.int .u8 ((wrap64 (48 + (Int.tmod x0_1 10))) % 256)] from rfl) (Reps.none _ _))); intro v304 w5 ho6 hb hg_ hnew_; clear hg_ hnew_; (first | rw [← Ny303.out] at ho6 | (simp only [Int.reduceToNat] at ho6; rw [← Ny303.out] at ho6)); have n0_ := Aside0.mk (Kd.R_lower ho6 (below_size (by repeat (first | (with_reducible first | exact HB.out | apply below_alloc | apply pw_below_drewN | apply below_drew1) | exact HB.out)))); have n1_ := Aside0.mk (below_step (by repeat (first | (with_reducible first | exact HB.out | apply below_alloc | apply pw_below_drewN | apply below_drew1) | exact HB.out)) hb); clear HB; have HO305 := n0_; have HB := n1_; clear n0_ n1_; clear hb ho6; have hcv7 := own_string (P := Tryd.prog) Tryd.underlying29 Tryd.underlying5 Tryd.underlying9 (Kd.own_of_R HO305.out)))
            go_roundg k1
            case measure => have := HK1.out; omega
            case rel => exact ⟨(wrap64 (Int.tdiv x0_1 10)), ((strOfNums y303) ++ x3_1), (by first | rfl | (simp; done) | (simp [*]; done)), (by first | rfl | (simp; done) | (simp [*]; done)), H', ⟨by have := HK1.out; omega⟩, ⟨by repeat (first | (with_reducible first | exact HB.out | apply below_alloc | apply pw_below_drewN | apply below_drew1) | exact HB.out)⟩⟩
          · rw [if_neg c4] at H
            exact absurd H (by simp)
        · rw [if_neg c3] at H
          have c3b0 : decide (0 < x0_1) = false := decide_eq_false c3
          clear c3
          by_cases c8 : 1 + x3_1.size ≤ 9223372036854775807
          · rw [if_pos c8] at H
            have c8b0 := eq_true c8
            have c8b1 : decide (1 + x3_1.size ≤ 9223372036854775807) = true := decide_eq_true c8
            try have c8b2 : (9223372036854775807 < 1 + x3_1.size) = False := eq_false (Nat.not_lt.2 c8)
            obtain rfl := Option.some.inj H
            go_wp2
            go_ret
            exact ⟨by first | rfl | (simp [errW_none, errW_some] <;> rfl) | (simp [*, errW_none, errW_some] <;> rfl), by repeat (first | (with_reducible first | exact HB.out | apply below_alloc | apply pw_below_drewN | apply below_drew1) | exact HB.out)⟩
          · rw [if_neg c8] at H
            exact absurd H (by simp)
def laws_markEntryS.l0 : Nat → List (S47) → Int → Int → Option (Int × (List (S47)))
  | 0, _, _, _ => none
  | k + 1, x0, x1, x5 => if x5 < (x0.length : Int) then ((laws_markText.f k x1).bind fun t306 => (if 0 ≤ x5 then ((some (x0.set (x5 : Int).toNat (⟨t306, (rd_T47 x0 x5).f1, (rd_T47 x0 x5).f2, (rd_T47 x0 x5).f3⟩ : S47) : List (S47))).bind fun y307 => ((some (y307.set (x5 : Int).toNat (⟨(rd_T47 y307 x5).f0, wrap64 (x1 + 1), (rd_T47 y307 x5).f2, (rd_T47 y307 x5).f3⟩ : S47) : List (S47))).bind fun y308 => ((laws_markText.f k (wrap64 ((wrap64 (x1 + 1)) + 1))).bind fun t309 => ((some (y308.set (x5 : Int).toNat (⟨(rd_T47 y308 x5).f0, (rd_T47 y308 x5).f1, t309, (rd_T47 y308 x5).f3⟩ : S47) : List (S47))).bind fun y310 => (laws_markEntryS.l0 k (y310.set (x5 : Int).toNat (⟨(rd_T47 y310 x5).f0, (rd_T47 y310 x5).f1, (rd_T47 y310 x5).f2, ((Int.tmod (wrap64 ((wrap64 ((wrap64 (x1 + 1)) + 1)) + 1)) 3) == 0)⟩ : S47)) (wrap64 ((wrap64 ((wrap64 ((wrap64 (x1 + 1)) + 1)) + 1)) + 1)) (wrap64 (x5 + 1))))))) else (none))) else (some (x1, x0))
def laws_markEntryS.f (k : Nat) (l0 : List (S47)) (a1 : Int) : Option (Int × (List (S47))) := laws_markEntryS.l0 k l0 a1 0
set_option maxHeartbeats 8000000 in
set_option maxRecDepth 100000 in
theorem laws_markEntryS.calls (k : Nat) (P0_ : Nat → Prop) (u9000_ : Value) (l0 : List (S47)) (a1 : Int) (r1 : Int) (r2 : List (S47)) (w0 w : World) (hB : Below w0.heap.size w0 w) (ho0 : Kd.R k47 47 w w0.heap.size P0_ u9000_ l0) (h : laws_markEntryS.f k l0 a1 = some (r1, r2)) :
    Calls Tryd.prog 19 #[u9000_, .int .i64 a1] w fun e w' => e = .returned (.int .i64 r1) ∧ Kd.R k47 47 w' w0.heap.size (fun k_ => (P0_ k_ ∨ w.heap.size ≤ k_)) u9000_ r2 ∧ Below w0.heap.size w0 w' ∧ Kept w w' (fun k_ => P0_ k_) := by
  have HO0 := Aside0.mk (show Kd.R k47 47 w w0.heap.size (fun k_ => (P0_ k_ ∨ w.heap.size ≤ k_)) u9000_ l0 from Kd.R_mono ho0 (fun k_ hk => (.inl hk)))
  have HK := Aside0.mk (Kept.refl w (fun k_ => P0_ k_))
  have HW0 := Aside0.mk hB.size
  have HB := Aside0.mk hB
  clear hB
  have H : (laws_markEntryS.l0 k l0 a1 0) = some (r1, r2) := h
  clear h
  have H' := Aside0.mk H
  clear H
  go_enter Tryd.func19, Tryd.ntmps19
  go_wp2
  go_loopg [1, 5] k (fun kq v1 v5 w' => ∃ (x0_1 : List (S47)) (x1_1 : Int) (x5_1 : Int), v1 = .int .i64 x1_1 ∧ v5 = .int .i64 x5_1 ∧ Aside0 (laws_markEntryS.l0 kq x0_1 x1_1 x5_1 = some (r1, r2)) ∧ Aside0 (kq ≤ k) ∧ Aside0 (Kd.R k47 47 w' w0.heap.size (fun k_ => (P0_ k_ ∨ w.heap.size ≤ k_)) u9000_ x0_1) ∧ Aside0 (Kept w w' (fun k_ => P0_ k_)) ∧ Aside0 (Below w0.heap.size w0 w'))
  case atStart => exact ⟨(l0), (a1), (0), (by first | rfl | (simp; done) | (simp [*]; done)), (by first | rfl | (simp; done) | (simp [*]; done)), H', ⟨Nat.le_refl _⟩, ⟨by (with_reducible repeat (first | apply Kd.R_alloc | apply Kd.R_drewN | apply Kd.R_drew)); exact HO0.out⟩, ⟨by repeat (first | (with_reducible first | exact HK.out | apply Kept.alloc | apply Kept.drewN | apply Kept.drew) | exact HK.out)⟩, ⟨by repeat (first | (with_reducible first | exact HB.out | apply below_alloc | apply pw_below_drewN | apply below_drew1) | exact HB.out)⟩⟩
  case round =>
    clear H'
    try clear c1
    try clear p2
    obtain ⟨x0_1, x1_1, x5_1, rfl, rfl, HA, HK1, HO_0, HK, HB⟩ := hrel
    cases gk with
    | zero => exact absurd HA.out (by simp [laws_markEntryS.l0])
    | succ k1 =>
      have H := HA.out
      clear HA
      simp only [laws_markEntryS.l0] at H
      by_cases c3 : x5_1 < (x0_1.length : Int)
      · rw [if_pos c3] at H
        have c3b0 : decide (x5_1 < (x0_1.length : Int)) = true := decide_eq_true c3
        clear c3
        replace H := Option.bind_eq_some_iff.mp H
        obtain ⟨t306, A40, H⟩ := H
        replace H : (if 0 ≤ x5_1 then ((some (x0_1.set (x5_1 : Int).toNat (⟨t306, (rd_T47 x0_1 x5_1).f1, (rd_T47 x0_1 x5_1).f2, (rd_T47 x0_1 x5_1).f3⟩ : S47) : List (S47))).bind fun y307 => ((some (y307.set (x5_1 : Int).toNat (⟨(rd_T47 y307 x5_1).f0, wrap64 (x1_1 + 1), (rd_T47 y307 x5_1).f2, (rd_T47 y307 x5_1).f3⟩ : S47) : List (S47))).bind fun y308 => ((laws_markText.f k1 (wrap64 ((wrap64 (x1_1 + 1)) + 1))).bind fun t309 => ((some (y308.set (x5_1 : Int).toNat (⟨(rd_T47 y308 x5_1).f0, (rd_T47 y308 x5_1).f1, t309, (rd_T47 y308 x5_1).f3⟩ : S47) : List (S47))).bind fun y310 => (laws_markEntryS.l0 k1 (y310.set (x5_1 : Int).toNat (⟨(rd_T47 y310 x5_1).f0, (rd_T47 y310 x5_1).f1, (rd_T47 y310 x5_1).f2, ((Int.tmod (wrap64 ((wrap64 ((wrap64 (x1_1 + 1)) + 1)) + 1)) 3) == 0)⟩ : S47)) (wrap64 ((wrap64 ((wrap64 ((wrap64 (x1_1 + 1)) + 1)) + 1)) + 1)) (wrap64 (x5_1 + 1))))))) else (none)) = some (r1, r2) := H
        have A4 := Aside0.mk A40
        clear A40
        by_cases c5 : 0 ≤ x5_1
        · rw [if_pos c5] at H
          have c5b0 : decide (0 ≤ x5_1) = true := decide_eq_true c5
          clear c5
          obtain ⟨y307, hy307⟩ : ∃ y_ : List (S47), y_ = (x0_1.set (x5_1 : Int).toNat (⟨t306, (rd_T47 x0_1 x5_1).f1, (rd_T47 x0_1 x5_1).f2, (rd_T47 x0_1 x5_1).f3⟩ : S47)) := ⟨_, rfl⟩
          replace H : ((some (y307.set (x5_1 : Int).toNat (⟨(rd_T47 y307 x5_1).f0, wrap64 (x1_1 + 1), (rd_T47 y307 x5_1).f2, (rd_T47 y307 x5_1).f3⟩ : S47) : List (S47))).bind fun y308 => ((laws_markText.f k1 (wrap64 ((wrap64 (x1_1 + 1)) + 1))).bind fun t309 => ((some (y308.set (x5_1 : Int).toNat (⟨(rd_T47 y308 x5_1).f0, (rd_T47 y308 x5_1).f1, t309, (rd_T47 y308 x5_1).f3⟩ : S47) : List (S47))).bind fun y310 => (laws_markEntryS.l0 k1 (y310.set (x5_1 : Int).toNat (⟨(rd_T47 y310 x5_1).f0, (rd_T47 y310 x5_1).f1, (rd_T47 y310 x5_1).f2, ((Int.tmod (wrap64 ((wrap64 ((wrap64 (x1_1 + 1)) + 1)) + 1)) 3) == 0)⟩ : S47)) (wrap64 ((wrap64 ((wrap64 ((wrap64 (x1_1 + 1)) + 1)) + 1)) + 1)) (wrap64 (x5_1 + 1)))))) = some (r1, r2) := by first | (rw [hy307]; with_reducible exact H) | (have H2_ := (Option.bind_some _ _).symm.trans H; rw [hy307]; with_reducible exact H2_) | (have H2_ := (Option.bind_some _ _).symm.trans H; with_reducible exact H2_) | with_reducible exact H | (rw [hy307]; exact H) | exact H
          have Ny307 := Aside0.mk hy307
          clear hy307
          obtain ⟨y308, hy308⟩ : ∃ y_ : List (S47), y_ = (y307.set (x5_1 : Int).toNat (⟨(rd_T47 y307 x5_1).f0, wrap64 (x1_1 + 1), (rd_T47 y307 x5_1).f2, (rd_T47 y307 x5_1).f3⟩ : S47)) := ⟨_, rfl⟩
          replace H : ((laws_markText.f k1 (wrap64 ((wrap64 (x1_1 + 1)) + 1))).bind fun t309 => ((some (y308.set (x5_1 : Int).toNat (⟨(rd_T47 y308 x5_1).f0, (rd_T47 y308 x5_1).f1, t309, (rd_T47 y308 x5_1).f3⟩ : S47) : List (S47))).bind fun y310 => (laws_markEntryS.l0 k1 (y310.set (x5_1 : Int).toNat (⟨(rd_T47 y310 x5_1).f0, (rd_T47 y310 x5_1).f1, (rd_T47 y310 x5_1).f2, ((Int.tmod (wrap64 ((wrap64 ((wrap64 (x1_1 + 1)) + 1)) + 1)) 3) == 0)⟩ : S47)) (wrap64 ((wrap64 ((wrap64 ((wrap64 (x1_1 + 1)) + 1)) + 1)) + 1)) (wrap64 (x5_1 + 1))))) = some (r1, r2) := by first | (rw [hy308]; with_reducible exact H) | (have H2_ := (Option.bind_some _ _).symm.trans H; rw [hy308]; with_reducible exact H2_) | (have H2_ := (Option.bind_some _ _).symm.trans H; with_reducible exact H2_) | with_reducible exact H | (rw [hy308]; exact H) | exact H
          have Ny308 := Aside0.mk hy308
          clear hy308
          replace H := Option.bind_eq_some_iff.mp H
          obtain ⟨t309, A80, H⟩ := H
          replace H : ((some (y308.set (x5_1 : Int).toNat (⟨(rd_T47 y308 x5_1).f0, (rd_T47 y308 x5_1).f1, t309, (rd_T47 y308 x5_1).f3⟩ : S47) : List (S47))).bind fun y310 => (laws_markEntryS.l0 k1 (y310.set (x5_1 : Int).toNat (⟨(rd_T47 y310 x5_1).f0, (rd_T47 y310 x5_1).f1, (rd_T47 y310 x5_1).f2, ((Int.tmod (wrap64 ((wrap64 ((wrap64 (x1_1 + 1)) + 1)) + 1)) 3) == 0)⟩ : S47)) (wrap64 ((wrap64 ((wrap64 ((wrap64 (x1_1 + 1)) + 1)) + 1)) + 1)) (wrap64 (x5_1 + 1)))) = some (r1, r2) := H
          have A8 := Aside0.mk A80
          clear A80
          obtain ⟨y310, hy310⟩ : ∃ y_ : List (S47), y_ = (y308.set (x5_1 : Int).toNat (⟨(rd_T47 y308 x5_1).f0, (rd_T47 y308 x5_1).f1, t309, (rd_T47 y308 x5_1).f3⟩ : S47)) := ⟨_, rfl⟩
          replace H : (laws_markEntryS.l0 k1 (y310.set (x5_1 : Int).toNat (⟨(rd_T47 y310 x5_1).f0, (rd_T47 y310 x5_1).f1, (rd_T47 y310 x5_1).f2, ((Int.tmod (wrap64 ((wrap64 ((wrap64 (x1_1 + 1)) + 1)) + 1)) 3) == 0)⟩ : S47)) (wrap64 ((wrap64 ((wrap64 ((wrap64 (x1_1 + 1)) + 1)) + 1)) + 1)) (wrap64 (x5_1 + 1))) = some (r1, r2) := by first | (rw [hy310]; with_reducible exact H) | (have H2_ := (Option.bind_some _ _).symm.trans H; rw [hy310]; with_reducible exact H2_) | (have H2_ := (Option.bind_some _ _).symm.trans H; with_reducible exact H2_) | with_reducible exact H | (rw [hy310]; exact H) | exact H
          have Ny310 := Aside0.mk hy310
          clear hy310
          obtain ⟨y311, hy311⟩ : ∃ y_ : List (S47), y_ = (y310.set (x5_1 : Int).toNat (⟨(rd_T47 y310 x5_1).f0, (rd_T47 y310 x5_1).f1, (rd_T47 y310 x5_1).f2, ((Int.tmod (wrap64 ((wrap64 ((wrap64 (x1_1 + 1)) + 1)) + 1)) 3) == 0)⟩ : S47)) := ⟨_, rfl⟩
          replace H : (laws_markEntryS.l0 k1 y311 (wrap64 ((wrap64 ((wrap64 ((wrap64 (x1_1 + 1)) + 1)) + 1)) + 1)) (wrap64 (x5_1 + 1))) = some (r1, r2) := by first | (rw [hy311]; with_reducible exact H) | (have H2_ := (Option.bind_some _ _).symm.trans H; rw [hy311]; with_reducible exact H2_) | (have H2_ := (Option.bind_some _ _).symm.trans H; with_reducible exact H2_) | with_reducible exact H | (rw [hy311]; exact H) | exact H
          have Ny311 := Aside0.mk hy311
          clear hy311
          have H' := Aside0.mk H
          clear H
          obtain ⟨Ao11, co11, eo11⟩ := Kd.R_slice HO_0.out
          subst eo11
          go_wp2_with (first | ((with_reducible refine gate_callee (f := 51) rfl ?_); refine goesL_ (some 15) rfl rfl Tryd.func51 (by kernel_rfl) rfl #[.int .i64 x1_1] rfl (by (try simp only [List.map_toArray, List.map_cons, List.map_nil]); first | done | rfl | (simp only [List.length_drop, List.length_take]; rfl)) ?_; (with_reducible refine (laws_markText.calls k1 x1_1 t306 _ A4.out).mono ?_); rintro e w12 ⟨rfl, hb⟩; refine ⟨_, rfl, ?_⟩; have n0_ := Aside0.mk (Kd.R_below (by (with_reducible repeat (first | apply Kd.R_alloc | apply Kd.R_drewN | apply Kd.R_drew)); exact HO_0.out) hb); have n1_ := Aside0.mk (Kept.below (S := (fun k_ => P0_ k_)) (by repeat (first | (with_reducible first | exact HK.out | apply Kept.alloc | apply Kept.drewN | apply Kept.drew) | exact HK.out)) hb); have n2_ := Aside0.mk (below_step (by repeat (first | (with_reducible first | exact HB.out | apply below_alloc | apply pw_below_drewN | apply below_drew1) | exact HB.out)) hb); clear HO_0; clear HK; clear HB; have HO_0 := n0_; have HK := n1_; have HB := n2_; clear n0_ n1_ n2_; (try clear hb); (try clear hb2); (try clear hk); (try clear hi); have p6 : 0 ≤ (x5_1 : Int) := of_decide_eq_true (by first | (with_reducible assumption) | assumption); have q6 : (x5_1 : Int) < ((x0_1.length : Int) : Int) := of_decide_eq_true (by first | (with_reducible assumption) | assumption); obtain ⟨go6, co6, eo6, gb6, gl6, cl6, HG6⟩ := Kd.R_form HO_0.out (by omega); (first | cases eo6 | (injection eo6 with ea_ en_ ec_; (first | subst ea_ | (injection ea_ with ea_; subst ea_)); subst ec_; clear en_)); have GB6 := Aside0.mk gb6; have GG6 := Aside0.mk HG6; clear gb6 gl6 HG6; have HMgo6 := Aside0.mk (show (P0_ go6 ∨ w.heap.size ≤ go6) from (HO_0.out.1 _ rfl)); obtain ⟨ce6, hcl6, hM6, hcc6, hfr6⟩ := Kd.R_elem HO_0.out z47 (x5_1 : Int) p6 q6; obtain rfl := k47_openM hM6; have hx6_0 : w12.cell? ⟨go6, (x5_1 : Int).toNat * 4, none⟩ = some (.string ((rd_T47 x0_1 x5_1).f0)) := hcc6 0 _ rfl; have hx6_1 : w12.cell? ⟨go6, (x5_1 : Int).toNat * 4 + 1, none⟩ = some (.int .i64 ((rd_T47 x0_1 x5_1).f1)) := hcc6 1 _ rfl; have hx6_2 : w12.cell? ⟨go6, (x5_1 : Int).toNat * 4 + 2, none⟩ = some (.string ((rd_T47 x0_1 x5_1).f2)) := hcc6 2 _ rfl; have hx6_3 : w12.cell? ⟨go6, (x5_1 : Int).toNat * 4 + 3, none⟩ = some (.bool ((rd_T47 x0_1 x5_1).f3)) := hcc6 3 _ rfl; have hf6_0 : w12.frozen? ⟨go6, (x5_1 : Int).toNat * 4, none⟩ = false := hfr6 0; have hf6_1 : w12.frozen? ⟨go6, (x5_1 : Int).toNat * 4 + 1, none⟩ = false := hfr6 1; have hf6_2 : w12.frozen? ⟨go6, (x5_1 : Int).toNat * 4 + 2, none⟩ = false := hfr6 2; have hf6_3 : w12.frozen? ⟨go6, (x5_1 : Int).toNat * 4 + 3, none⟩ = false := hfr6 3; clear hcl6 hcc6 hfr6 hM6; replace p6 := eq_true p6; replace q6 := eq_true q6; have HX13 := Aside0.mk (show Kd.R k47 47 w12 w0.heap.size (fun k_ => (P0_ k_ ∨ w.heap.size ≤ k_)) (.slice (some ⟨go6, 0, none⟩) x0_1.length co11) x0_1 from (by (with_reducible repeat (first | apply Kd.R_alloc | apply Kd.R_drewN | apply Kd.R_drew)); exact HO_0.out)); obtain ⟨ce13, hcl13, hM13, hcc13, hfr13⟩ := Kd.R_elem HX13.out z47 (x5_1 : Int) (of_decide_eq_true (by first | (with_reducible assumption) | assumption)) (by have h_ : (x5_1 : Int) < ((x0_1.length : Int) : Int) := of_decide_eq_true (by first | (with_reducible assumption) | assumption); first | exact h_ | (have e_ := (Kd.R_reads' HO_0.out).1; omega) | simpa using h_); obtain rfl := k47_openM hM13; have HP13 := Kd.R_seg HX13.out (x5_1 : Int) (of_decide_eq_true (by first | (with_reducible assumption) | assumption)) (by have h_ : (x5_1 : Int) < ((x0_1.length : Int) : Int) := of_decide_eq_true (by first | (with_reducible assumption) | assumption); first | exact h_ | (have e_ := (Kd.R_reads' HO_0.out).1; omega) | simpa using h_) (seg := [.string t306]) (j := 0) hcl13 hcc13 (show 1 ≤ 4 from by decide) (x' := (⟨t306, (rd_T47 x0_1 x5_1).f1, (rd_T47 x0_1 x5_1).f2, (rd_T47 x0_1 x5_1).f3⟩ : S47)) (k47_mkM _ _ _ (⟨t306, (rd_T47 x0_1 x5_1).f1, (rd_T47 x0_1 x5_1).f2, (rd_T47 x0_1 x5_1).f3⟩ : S47) ) (fun _ hk => hk); have hx13_0 := hcc13 0 _ rfl; (try simp only [show (k47).sz = 4 from rfl, Nat.mul_one, Nat.add_zero] at hx13_0); have hf13_0 := hfr13 0; (try simp only [show (k47).sz = 4 from rfl, Nat.mul_one, Nat.add_zero] at hf13_0); clear hcl13 hcc13 hfr13 hM13) | ((with_reducible refine gate_store (t := 9) (p := 17) rfl ?_); refine store_event (t := 9) (p := 17) (v := ?vo_w14) (w1 := (w12.setCell ⟨go6, (x5_1 : Int).toNat * 4, none⟩ (.string t306))) ?hg ?ho ?hn ?hr ?_; (case ho => rfl); (case hg => rfl); (case hn => rfl); (case hr => first | (go_simp; done) | (go_simp; rfl)); intro w14 hw; have hg : w12.grownBy w14 (some go6) := (by rw [hw]; exact HP13.2); have hp_ : Kd.R k47 47 w14 w0.heap.size (fun k_ => (P0_ k_ ∨ w.heap.size ≤ k_)) (.slice (some ⟨go6, 0, none⟩) x0_1.length co11) y307 := (by rw [hw, Ny307.out]; exact HP13.1); clear HP13; have n0_ := Aside0.mk (hp_); have n1_ := Aside0.mk ((by rw [hw]; exact below_set (HB.out) GB6.out : Below w0.heap.size w0 w14)); have n2_ := Aside0.mk (Kept.of_grown (S := (fun k_ => P0_ k_)) hg (by repeat (first | (with_reducible first | exact HK.out | apply Kept.alloc | apply Kept.drewN | apply Kept.drew) | exact HK.out)) (fun k_ e_ => (HO_0.out.1 k_ e_))); clear HO_0; clear HB; clear HK; have HO_0 := n0_; have HB := n1_; have HK := n2_; clear n0_ n1_ n2_; clear hg hw hp_; have p7 : 0 ≤ (x5_1 : Int) := of_decide_eq_true (by first | (with_reducible assumption) | assumption); have q7 : (x5_1 : Int) < ((x0_1.length : Int) : Int) := of_decide_eq_true (by first | (with_reducible assumption) | assumption); obtain ⟨ce7, hcl7, hM7, hcc7, hfr7⟩ := Kd.R_elem HO_0.out z47 (x5_1 : Int) p7 q7; obtain rfl := k47_openM hM7; have hx7_0 : w14.cell? ⟨go6, (x5_1 : Int).toNat * 4, none⟩ = some (.string ((rd_T47 y307 x5_1).f0)) := hcc7 0 _ rfl; have hx7_1 : w14.cell? ⟨go6, (x5_1 : Int).toNat * 4 + 1, none⟩ = some (.int .i64 ((rd_T47 y307 x5_1).f1)) := hcc7 1 _ rfl; have hx7_2 : w14.cell? ⟨go6, (x5_1 : Int).toNat * 4 + 2, none⟩ = some (.string ((rd_T47 y307 x5_1).f2)) := hcc7 2 _ rfl; have hx7_3 : w14.cell? ⟨go6, (x5_1 : Int).toNat * 4 + 3, none⟩ = some (.bool ((rd_T47 y307 x5_1).f3)) := hcc7 3 _ rfl; have hf7_0 : w14.frozen? ⟨go6, (x5_1 : Int).toNat * 4, none⟩ = false := hfr7 0; have hf7_1 : w14.frozen? ⟨go6, (x5_1 : Int).toNat * 4 + 1, none⟩ = false := hfr7 1; have hf7_2 : w14.frozen? ⟨go6, (x5_1 : Int).toNat * 4 + 2, none⟩ = false := hfr7 2; have hf7_3 : w14.frozen? ⟨go6, (x5_1 : Int).toNat * 4 + 3, none⟩ = false := hfr7 3; clear hcl7 hcc7 hfr7 hM7; replace p7 := eq_true p7; replace q7 := eq_true q7; have HX15 := Aside0.mk (show Kd.R k47 47 w14 w0.heap.size (fun k_ => (P0_ k_ ∨ w.heap.size ≤ k_)) (.slice (some ⟨go6, 0, none⟩) x0_1.length co11) y307 from (by (with_reducible repeat (first | apply Kd.R_alloc | apply Kd.R_drewN | apply Kd.R_drew)); exact HO_0.out)); obtain ⟨ce15, hcl15, hM15, hcc15, hfr15⟩ := Kd.R_elem HX15.out z47 (x5_1 : Int) (of_decide_eq_true (by first | (with_reducible assumption) | assumption)) (by have h_ : (x5_1 : Int) < ((x0_1.length : Int) : Int) := of_decide_eq_true (by first | (with_reducible assumption) | assumption); first | exact h_ | (have e_ := (Kd.R_reads' HO_0.out).1; omega) | simpa using h_); obtain rfl := k47_openM hM15; have HP15 := Kd.R_seg HX15.out (x5_1 : Int) (of_decide_eq_true (by first | (with_reducible assumption) | assumption)) (by have h_ : (x5_1 : Int) < ((x0_1.length : Int) : Int) := of_decide_eq_true (by first | (with_reducible assumption) | assumption); first | exact h_ | (have e_ := (Kd.R_reads' HO_0.out).1; omega) | simpa using h_) (seg := [.int .i64 (wrap64 (x1_1 + 1))]) (j := 1) hcl15 hcc15 (show 2 ≤ 4 from by decide) (x' := (⟨(rd_T47 y307 x5_1).f0, wrap64 (x1_1 + 1), (rd_T47 y307 x5_1).f2, (rd_T47 y307 x5_1).f3⟩ : S47)) (k47_mkM _ _ _ (⟨(rd_T47 y307 x5_1).f0, wrap64 (x1_1 + 1), (rd_T47 y307 x5_1).f2, (rd_T47 y307 x5_1).f3⟩ : S47) ) (fun _ hk => hk); have hx15_1 := hcc15 1 _ rfl; (try simp only [show (k47).sz = 4 from rfl, Nat.mul_one, Nat.add_zero] at hx15_1); have hf15_1 := hfr15 1; (try simp only [show (k47).sz = 4 from rfl, Nat.mul_one, Nat.add_zero] at hf15_1); clear hcl15 hcc15 hfr15 hM15) | ((with_reducible refine gate_store (t := 2) (p := 24) rfl ?_); refine store_event (t := 2) (p := 24) (v := ?vo_w16) (w1 := (w14.setCell ⟨go6, (x5_1 : Int).toNat * 4 + 1, none⟩ (.int .i64 (wrap64 (x1_1 + 1))))) ?hg ?ho ?hn ?hr ?_; (case ho => rfl); (case hg => rfl); (case hn => rfl); (case hr => first | (go_simp; done) | (go_simp; rfl)); intro w16 hw; have hg : w14.grownBy w16 (some go6) := (by rw [hw]; exact HP15.2); have hp_ : Kd.R k47 47 w16 w0.heap.size (fun k_ => (P0_ k_ ∨ w.heap.size ≤ k_)) (.slice (some ⟨go6, 0, none⟩) x0_1.length co11) y308 := (by rw [hw, Ny308.out]; exact HP15.1); clear HP15; have n0_ := Aside0.mk (hp_); have n1_ := Aside0.mk ((by rw [hw]; exact below_set (HB.out) GB6.out : Below w0.heap.size w0 w16)); have n2_ := Aside0.mk (Kept.of_grown (S := (fun k_ => P0_ k_)) hg (by repeat (first | (with_reducible first | exact HK.out | apply Kept.alloc | apply Kept.drewN | apply Kept.drew) | exact HK.out)) (fun k_ e_ => (HO_0.out.1 k_ e_))); clear HO_0; clear HB; clear HK; have HO_0 := n0_; have HB := n1_; have HK := n2_; clear n0_ n1_ n2_; clear hg hw hp_) | ((with_reducible refine gate_callee (f := 51) rfl ?_); refine goesL_ (some 30) rfl rfl Tryd.func51 (by kernel_rfl) rfl #[.int .i64 (wrap64 ((wrap64 (x1_1 + 1)) + 1))] rfl (by (try simp only [List.map_toArray, List.map_cons, List.map_nil]); first | done | rfl | (simp only [List.length_drop, List.length_take]; rfl)) ?_; (with_reducible refine (laws_markText.calls k1 (wrap64 ((wrap64 (x1_1 + 1)) + 1)) t309 _ A8.out).mono ?_); rintro e w17 ⟨rfl, hb⟩; refine ⟨_, rfl, ?_⟩; have n0_ := Aside0.mk (Kd.R_below (by (with_reducible repeat (first | apply Kd.R_alloc | apply Kd.R_drewN | apply Kd.R_drew)); exact HO_0.out) hb); have n1_ := Aside0.mk (Kept.below (S := (fun k_ => P0_ k_)) (by repeat (first | (with_reducible first | exact HK.out | apply Kept.alloc | apply Kept.drewN | apply Kept.drew) | exact HK.out)) hb); have n2_ := Aside0.mk (below_step (by repeat (first | (with_reducible first | exact HB.out | apply below_alloc | apply pw_below_drewN | apply below_drew1) | exact HB.out)) hb); clear HO_0; clear HK; clear HB; have HO_0 := n0_; have HK := n1_; have HB := n2_; clear n0_ n1_ n2_; (try clear hb); (try clear hb2); (try clear hk); (try clear hi); have p9 : 0 ≤ (x5_1 : Int) := of_decide_eq_true (by first | (with_reducible assumption) | assumption); have q9 : (x5_1 : Int) < ((x0_1.length : Int) : Int) := of_decide_eq_true (by first | (with_reducible assumption) | assumption); obtain ⟨ce9, hcl9, hM9, hcc9, hfr9⟩ := Kd.R_elem HO_0.out z47 (x5_1 : Int) p9 q9; obtain rfl := k47_openM hM9; have hx9_0 : w17.cell? ⟨go6, (x5_1 : Int).toNat * 4, none⟩ = some (.string ((rd_T47 y308 x5_1).f0)) := hcc9 0 _ rfl; have hx9_1 : w17.cell? ⟨go6, (x5_1 : Int).toNat * 4 + 1, none⟩ = some (.int .i64 ((rd_T47 y308 x5_1).f1)) := hcc9 1 _ rfl; have hx9_2 : w17.cell? ⟨go6, (x5_1 : Int).toNat * 4 + 2, none⟩ = some (.string ((rd_T47 y308 x5_1).f2)) := hcc9 2 _ rfl; have hx9_3 : w17.cell? ⟨go6, (x5_1 : Int).toNat * 4 + 3, none⟩ = some (.bool ((rd_T47 y308 x5_1).f3)) := hcc9 3 _ rfl; have hf9_0 : w17.frozen? ⟨go6, (x5_1 : Int).toNat * 4, none⟩ = false := hfr9 0; have hf9_1 : w17.frozen? ⟨go6, (x5_1 : Int).toNat * 4 + 1, none⟩ = false := hfr9 1; have hf9_2 : w17.frozen? ⟨go6, (x5_1 : Int).toNat * 4 + 2, none⟩ = false := hfr9 2; have hf9_3 : w17.frozen? ⟨go6, (x5_1 : Int).toNat * 4 + 3, none⟩ = false := hfr9 3; clear hcl9 hcc9 hfr9 hM9; replace p9 := eq_true p9; replace q9 := eq_true q9; have HX18 := Aside0.mk (show Kd.R k47 47 w17 w0.heap.size (fun k_ => (P0_ k_ ∨ w.heap.size ≤ k_)) (.slice (some ⟨go6, 0, none⟩) x0_1.length co11) y308 from (by (with_reducible repeat (first | apply Kd.R_alloc | apply Kd.R_drewN | apply Kd.R_drew)); exact HO_0.out)); obtain ⟨ce18, hcl18, hM18, hcc18, hfr18⟩ := Kd.R_elem HX18.out z47 (x5_1 : Int) (of_decide_eq_true (by first | (with_reducible assumption) | assumption)) (by have h_ : (x5_1 : Int) < ((x0_1.length : Int) : Int) := of_decide_eq_true (by first | (with_reducible assumption) | assumption); first | exact h_ | (have e_ := (Kd.R_reads' HO_0.out).1; omega) | simpa using h_); obtain rfl := k47_openM hM18; have HP18 := Kd.R_seg HX18.out (x5_1 : Int) (of_decide_eq_true (by first | (with_reducible assumption) | assumption)) (by have h_ : (x5_1 : Int) < ((x0_1.length : Int) : Int) := of_decide_eq_true (by first | (with_reducible assumption) | assumption); first | exact h_ | (have e_ := (Kd.R_reads' HO_0.out).1; omega) | simpa using h_) (seg := [.string t309]) (j := 2) hcl18 hcc18 (show 3 ≤ 4 from by decide) (x' := (⟨(rd_T47 y308 x5_1).f0, (rd_T47 y308 x5_1).f1, t309, (rd_T47 y308 x5_1).f3⟩ : S47)) (k47_mkM _ _ _ (⟨(rd_T47 y308 x5_1).f0, (rd_T47 y308 x5_1).f1, t309, (rd_T47 y308 x5_1).f3⟩ : S47) ) (fun _ hk => hk); have hx18_2 := hcc18 2 _ rfl; (try simp only [show (k47).sz = 4 from rfl, Nat.mul_one, Nat.add_zero] at hx18_2); have hf18_2 := hfr18 2; (try simp only [show (k47).sz = 4 from rfl, Nat.mul_one, Nat.add_zero] at hf18_2); clear hcl18 hcc18 hfr18 hM18) | ((with_reducible refine gate_store (t := 9) (p := 32) rfl ?_); refine store_event (t := 9) (p := 32) (v := ?vo_w19) (w1 := (w17.setCell ⟨go6, (x5_1 : Int).toNat * 4 + 2, none⟩ (.string t309))) ?hg ?ho ?hn ?hr ?_; (case ho => rfl); (case hg => rfl); (case hn => rfl); (case hr => first | (go_simp; done) | (go_simp; rfl)); intro w19 hw; have hg : w17.grownBy w19 (some go6) := (by rw [hw]; exact HP18.2); have hp_ : Kd.R k47 47 w19 w0.heap.size (fun k_ => (P0_ k_ ∨ w.heap.size ≤ k_)) (.slice (some ⟨go6, 0, none⟩) x0_1.length co11) y310 := (by rw [hw, Ny310.out]; exact HP18.1); clear HP18; have n0_ := Aside0.mk (hp_); have n1_ := Aside0.mk ((by rw [hw]; exact below_set (HB.out) GB6.out : Below w0.heap.size w0 w19)); have n2_ := Aside0.mk (Kept.of_grown (S := (fun k_ => P0_ k_)) hg (by repeat (first | (with_reducible first | exact HK.out | apply Kept.alloc | apply Kept.drewN | apply Kept.drew) | exact HK.out)) (fun k_ e_ => (HO_0.out.1 k_ e_))); clear HO_0; clear HB; clear HK; have HO_0 := n0_; have HB := n1_; have HK := n2_; clear n0_ n1_ n2_; clear hg hw hp_; have p10 : 0 ≤ (x5_1 : Int) := of_decide_eq_true (by first | (with_reducible assumption) | assumption); have q10 : (x5_1 : Int) < ((x0_1.length : Int) : Int) := of_decide_eq_true (by first | (with_reducible assumption) | assumption); obtain ⟨ce10, hcl10, hM10, hcc10, hfr10⟩ := Kd.R_elem HO_0.out z47 (x5_1 : Int) p10 q10; obtain rfl := k47_openM hM10; have hx10_0 : w19.cell? ⟨go6, (x5_1 : Int).toNat * 4, none⟩ = some (.string ((rd_T47 y310 x5_1).f0)) := hcc10 0 _ rfl; have hx10_1 : w19.cell? ⟨go6, (x5_1 : Int).toNat * 4 + 1, none⟩ = some (.int .i64 ((rd_T47 y310 x5_1).f1)) := hcc10 1 _ rfl; have hx10_2 : w19.cell? ⟨go6, (x5_1 : Int).toNat * 4 + 2, none⟩ = some (.string ((rd_T47 y310 x5_1).f2)) := hcc10 2 _ rfl; have hx10_3 : w19.cell? ⟨go6, (x5_1 : Int).toNat * 4 + 3, none⟩ = some (.bool ((rd_T47 y310 x5_1).f3)) := hcc10 3 _ rfl; have hf10_0 : w19.frozen? ⟨go6, (x5_1 : Int).toNat * 4, none⟩ = false := hfr10 0; have hf10_1 : w19.frozen? ⟨go6, (x5_1 : Int).toNat * 4 + 1, none⟩ = false := hfr10 1; have hf10_2 : w19.frozen? ⟨go6, (x5_1 : Int).toNat * 4 + 2, none⟩ = false := hfr10 2; have hf10_3 : w19.frozen? ⟨go6, (x5_1 : Int).toNat * 4 + 3, none⟩ = false := hfr10 3; clear hcl10 hcc10 hfr10 hM10; replace p10 := eq_true p10; replace q10 := eq_true q10; have HX20 := Aside0.mk (show Kd.R k47 47 w19 w0.heap.size (fun k_ => (P0_ k_ ∨ w.heap.size ≤ k_)) (.slice (some ⟨go6, 0, none⟩) x0_1.length co11) y310 from (by (with_reducible repeat (first | apply Kd.R_alloc | apply Kd.R_drewN | apply Kd.R_drew)); exact HO_0.out)); obtain ⟨ce20, hcl20, hM20, hcc20, hfr20⟩ := Kd.R_elem HX20.out z47 (x5_1 : Int) (of_decide_eq_true (by first | (with_reducible assumption) | assumption)) (by have h_ : (x5_1 : Int) < ((x0_1.length : Int) : Int) := of_decide_eq_true (by first | (with_reducible assumption) | assumption); first | exact h_ | (have e_ := (Kd.R_reads' HO_0.out).1; omega) | simpa using h_); obtain rfl := k47_openM hM20; have HP20 := Kd.R_seg HX20.out (x5_1 : Int) (of_decide_eq_true (by first | (with_reducible assumption) | assumption)) (by have h_ : (x5_1 : Int) < ((x0_1.length : Int) : Int) := of_decide_eq_true (by first | (with_reducible assumption) | assumption); first | exact h_ | (have e_ := (Kd.R_reads' HO_0.out).1; omega) | simpa using h_) (seg := [.bool ((Int.tmod (wrap64 ((wrap64 ((wrap64 (x1_1 + 1)) + 1)) + 1)) 3) == 0)]) (j := 3) hcl20 hcc20 (show 4 ≤ 4 from by decide) (x' := (⟨(rd_T47 y310 x5_1).f0, (rd_T47 y310 x5_1).f1, (rd_T47 y310 x5_1).f2, ((Int.tmod (wrap64 ((wrap64 ((wrap64 (x1_1 + 1)) + 1)) + 1)) 3) == 0)⟩ : S47)) (k47_mkM _ _ _ (⟨(rd_T47 y310 x5_1).f0, (rd_T47 y310 x5_1).f1, (rd_T47 y310 x5_1).f2, ((Int.tmod (wrap64 ((wrap64 ((wrap64 (x1_1 + 1)) + 1)) + 1)) 3) == 0)⟩ : S47) ) (fun _ hk => hk); have hx20_3 := hcc20 3 _ rfl; (try simp only [show (k47).sz = 4 from rfl, Nat.mul_one, Nat.add_zero] at hx20_3); have hf20_3 := hfr20 3; (try simp only [show (k47).sz = 4 from rfl, Nat.mul_one, Nat.add_zero] at hf20_3); clear hcl20 hcc20 hfr20 hM20) | ((with_reducible refine gate_store (t := 4) (p := 41) rfl ?_); refine store_event (t := 4) (p := 41) (v := ?vo_w21) (w1 := (w19.setCell ⟨go6, (x5_1 : Int).toNat * 4 + 3, none⟩ (.bool ((Int.tmod (wrap64 ((wrap64 ((wrap64 (x1_1 + 1)) + 1)) + 1)) 3) == 0)))) ?hg ?ho ?hn ?hr ?_; (case ho => rfl); (case hg => rfl); (case hn => rfl); (case hr => first | (go_simp; done) | (go_simp; rfl)); intro w21 hw; have hg : w19.grownBy w21 (some go6) := (by rw [hw]; exact HP20.2); have hp_ : Kd.R k47 47 w21 w0.heap.size (fun k_ => (P0_ k_ ∨ w.heap.size ≤ k_)) (.slice (some ⟨go6, 0, none⟩) x0_1.length co11) y311 := (by rw [hw, Ny311.out]; exact HP20.1); clear HP20; have n0_ := Aside0.mk (hp_); have n1_ := Aside0.mk ((by rw [hw]; exact below_set (HB.out) GB6.out : Below w0.heap.size w0 w21)); have n2_ := Aside0.mk (Kept.of_grown (S := (fun k_ => P0_ k_)) hg (by repeat (first | (with_reducible first | exact HK.out | apply Kept.alloc | apply Kept.drewN | apply Kept.drew) | exact HK.out)) (fun k_ e_ => (HO_0.out.1 k_ e_))); clear HO_0; clear HB; clear HK; have HO_0 := n0_; have HB := n1_; have HK := n2_; clear n0_ n1_ n2_; clear hg hw hp_))
          go_roundg k1
          case measure => have := HK1.out; omega
          case rel => exact ⟨(y311), (wrap64 ((wrap64 ((wrap64 ((wrap64 (x1_1 + 1)) + 1)) + 1)) + 1)), (wrap64 (x5_1 + 1)), (by first | rfl | (simp; done) | (simp [*]; done)), (by first | rfl | (simp; done) | (simp [*]; done)), H', ⟨by have := HK1.out; omega⟩, ⟨by (with_reducible repeat (first | apply Kd.R_alloc | apply Kd.R_drewN | apply Kd.R_drew)); exact HO_0.out⟩, ⟨by repeat (first | (with_reducible first | exact HK.out | apply Kept.alloc | apply Kept.drewN | apply Kept.drew) | exact HK.out)⟩, ⟨by repeat (first | (with_reducible first | exact HB.out | apply below_alloc | apply pw_below_drewN | apply below_drew1) | exact HB.out)⟩⟩
        · rw [if_neg c5] at H
          exact absurd H (by simp)
      · rw [if_neg c3] at H
        have c3b0 : decide (x5_1 < (x0_1.length : Int)) = false := decide_eq_false c3
        clear c3
        simp only [Option.some.injEq, Prod.mk.injEq] at H
        obtain ⟨rfl, rfl⟩ := H
        obtain ⟨Ao22, co22, eo22⟩ := Kd.R_slice HO_0.out
        subst eo22
        go_wp2
        go_ret
        exact ⟨by first | rfl | (simp [errW_none, errW_some] <;> rfl) | (simp [*, errW_none, errW_some] <;> rfl), by (with_reducible repeat (first | apply Kd.R_alloc | apply Kd.R_drewN | apply Kd.R_drew)); exact HO_0.out, by repeat (first | (with_reducible first | exact HB.out | apply below_alloc | apply pw_below_drewN | apply below_drew1) | exact HB.out), by repeat (first | (with_reducible first | exact HK.out | apply Kept.alloc | apply Kept.drewN | apply Kept.drew) | exact HK.out)⟩
end Go.Proofs.YtgghefjkkidaoaaDoor.P
end

section
namespace Go.Proofs.YtgghefjkkidaoaaDoor.P
open Go.RowKit Go.Proofs.YtgghefjkkidaoaaDoorW.PrintWords Go.Proofs.YtgghefjkkidaoaaDoorW.PrintLast Go.Proofs.YtgghefjkkidaoaaDoorW.PrintMore Go.Proofs.YtgghefjkkidaoaaDoorM
attribute [local go_sem] max2_int min2_int max_two min_two max_three min_three max_four min_four   -- for this text's walks alone
set_option linter.unusedVariables false
set_option linter.unusedSimpArgs false
end Go.Proofs.YtgghefjkkidaoaaDoor.P
end

section
namespace Go.Proofs.YtgghefjkkidaoaaDoor.P
open Go.RowKit Go.Proofs.YtgghefjkkidaoaaDoorW.PrintWords Go.Proofs.YtgghefjkkidaoaaDoorW.PrintLast Go.Proofs.YtgghefjkkidaoaaDoorW.PrintMore Go.Proofs.YtgghefjkkidaoaaDoorM
attribute [local go_sem] max2_int min2_int max_two min_two max_three min_three max_four min_four   -- for this text's walks alone
set_option linter.unusedVariables false
set_option linter.unusedSimpArgs false
end Go.Proofs.YtgghefjkkidaoaaDoor.P
end

section
namespace Go.Proofs.YtgghefjkkidaoaaDoor.P
open Go.RowKit Go.Proofs.YtgghefjkkidaoaaDoorW.PrintWords Go.Proofs.YtgghefjkkidaoaaDoorW.PrintLast Go.Proofs.YtgghefjkkidaoaaDoorW.PrintMore Go.Proofs.YtgghefjkkidaoaaDoorM
attribute [local go_sem] max2_int min2_int max_two min_two max_three min_three max_four min_four   -- for this text's walks alone
set_option linter.unusedVariables false
set_option linter.unusedSimpArgs false
end Go.Proofs.YtgghefjkkidaoaaDoor.P
end

section
namespace Go.Proofs.YtgghefjkkidaoaaDoor.P
open Go.RowKit Go.Proofs.YtgghefjkkidaoaaDoorW.PrintWords Go.Proofs.YtgghefjkkidaoaaDoorW.PrintLast Go.Proofs.YtgghefjkkidaoaaDoorW.PrintMore Go.Proofs.YtgghefjkkidaoaaDoorM
attribute [local go_sem] max2_int min2_int max_two min_two max_three min_three max_four min_four   -- for this text's walks alone
set_option linter.unusedVariables false
set_option linter.unusedSimpArgs false
end Go.Proofs.YtgghefjkkidaoaaDoor.P
end

section
namespace Go.Proofs.YtgghefjkkidaoaaDoor.P
open Go.RowKit Go.Proofs.YtgghefjkkidaoaaDoorW.PrintWords Go.Proofs.YtgghefjkkidaoaaDoorW.PrintLast Go.Proofs.YtgghefjkkidaoaaDoorW.PrintMore Go.Proofs.YtgghefjkkidaoaaDoorM
attribute [local go_sem] max2_int min2_int max_two min_two max_three min_three max_four min_four   -- for this text's walks alone
set_option linter.unusedVariables false
set_option linter.unusedSimpArgs false
def laws_heldEntryS.l0 : Nat → List (S47) → Int → Int → Option (Int)
  | 0, _, _, _ => none
  | k + 1, x0, x1, x5 => if x5 < (x0.length : Int) then (if 0 ≤ x5 then ((laws_markText.f k x1).bind fun t381 => (if ((rd_T47 x0 x5).f0).toList = t381.toList then (if ((rd_T47 x0 x5).f1) = (wrap64 (x1 + 1)) then ((laws_markText.f k (wrap64 ((wrap64 (x1 + 1)) + 1))).bind fun t384 => (if ((rd_T47 x0 x5).f2).toList = t384.toList then (if (((rd_T47 x0 x5).f3) != ((Int.tmod (wrap64 ((wrap64 ((wrap64 (x1 + 1)) + 1)) + 1)) 3) == 0)) = true then (some (-1)) else (laws_heldEntryS.l0 k x0 (wrap64 ((wrap64 ((wrap64 ((wrap64 (x1 + 1)) + 1)) + 1)) + 1)) (wrap64 (x5 + 1)))) else (some (-1)))) else (some (-1))) else (some (-1)))) else (none)) else (some x1)
def laws_heldEntryS.f (k : Nat) (l0 : List (S47)) (a1 : Int) : Option (Int) := laws_heldEntryS.l0 k l0 a1 0
def laws_heldEntryS.T4 : Bool × List (List Nat × List Nat) := (true, [([], []), ([], []), ([0, 1], [0, 1]), ([2], [2]), ([3], [3]), ([], []), ([5], [5]), ([4, 6], [4, 6])])
def laws_heldEntryS.B4 : List Nat := [0, 0, 3, 7, 15, 0, 32, 127]
theorem laws_heldEntryS.tab4 : rtab .any (opsOf Tryd.f24 4) = laws_heldEntryS.T4 := by kernel_rfl
theorem laws_heldEntryS.bits4 : waitsOk laws_heldEntryS.T4.2 laws_heldEntryS.B4 = true := by kernel_rfl
def laws_heldEntryS.T10 : Bool × List (List Nat × List Nat) := (true, [([], []), ([], []), ([0, 1], [0, 1]), ([2], [2]), ([3], [3]), ([], []), ([5], [5]), ([4, 6], [4, 6])])
def laws_heldEntryS.B10 : List Nat := [0, 0, 3, 7, 15, 0, 32, 127]
theorem laws_heldEntryS.tab10 : rtab .any (opsOf Tryd.f24 10) = laws_heldEntryS.T10 := by kernel_rfl
theorem laws_heldEntryS.bits10 : waitsOk laws_heldEntryS.T10.2 laws_heldEntryS.B10 = true := by kernel_rfl
set_option maxHeartbeats 8000000 in
set_option maxRecDepth 100000 in
theorem laws_heldEntryS.calls (k : Nat) (A0 : Option Addr) (c0 : Nat) (l0 : List (S47)) (a1 : Int) (r : Int) (w : World) (hr0 : Kd.C k47 w A0 l0.length l0) (hc0 : l0.length ≤ c0) (h : laws_heldEntryS.f k l0 a1 = some r) :
    Calls Tryd.prog 24 #[.slice A0 l0.length c0, .int .i64 a1] w fun e w' => e = .returned (.int .i64 r) ∧ Below w.heap.size w w' := by
  have HR0 := Aside0.mk hr0
  have HC0 := Aside0.mk hc0
  clear hr0 hc0
  have HB := Aside0.mk (Below.refl w.heap.size w)
  have H : (laws_heldEntryS.l0 k l0 a1 0) = some r := h
  clear h
  have H' := Aside0.mk H
  clear H
  go_enter Tryd.func24, Tryd.ntmps24
  go_wp2
  go_loopg [1, 5] k (fun kq v1 v5 w' => ∃ (x1_1 : Int) (x5_1 : Int), v1 = .int .i64 x1_1 ∧ v5 = .int .i64 x5_1 ∧ Aside0 (laws_heldEntryS.l0 kq l0 x1_1 x5_1 = some r) ∧ Aside0 (kq ≤ k) ∧ Aside0 (Below w.heap.size w w'))
  case atStart => exact ⟨(a1), (0), (by first | rfl | (simp; done) | (simp [*]; done)), (by first | rfl | (simp; done) | (simp [*]; done)), H', ⟨Nat.le_refl _⟩, ⟨by repeat (first | (with_reducible first | exact HB.out | apply below_alloc | apply pw_below_drewN | apply below_drew1) | exact HB.out)⟩⟩
  case round =>
    clear H'
    try clear c2
    try clear p2
    obtain ⟨x1_1, x5_1, rfl, rfl, HA, HK1, HB⟩ := hrel
    cases gk with
    | zero => exact absurd HA.out (by simp [laws_heldEntryS.l0])
    | succ k1 =>
      have H := HA.out
      clear HA
      simp only [laws_heldEntryS.l0] at H
      by_cases c3 : x5_1 < (l0.length : Int)
      · rw [if_pos c3] at H
        have c3b0 : decide (x5_1 < (l0.length : Int)) = true := decide_eq_true c3
        clear c3
        by_cases c4 : 0 ≤ x5_1
        · rw [if_pos c4] at H
          have c4b0 : decide (0 ≤ x5_1) = true := decide_eq_true c4
          clear c4
          replace H := Option.bind_eq_some_iff.mp H
          obtain ⟨t381, A50, H⟩ := H
          replace H : (if ((rd_T47 l0 x5_1).f0).toList = t381.toList then (if ((rd_T47 l0 x5_1).f1) = (wrap64 (x1_1 + 1)) then ((laws_markText.f k1 (wrap64 ((wrap64 (x1_1 + 1)) + 1))).bind fun t384 => (if ((rd_T47 l0 x5_1).f2).toList = t384.toList then (if (((rd_T47 l0 x5_1).f3) != ((Int.tmod (wrap64 ((wrap64 ((wrap64 (x1_1 + 1)) + 1)) + 1)) 3) == 0)) = true then (some (-1)) else (laws_heldEntryS.l0 k1 l0 (wrap64 ((wrap64 ((wrap64 ((wrap64 (x1_1 + 1)) + 1)) + 1)) + 1)) (wrap64 (x5_1 + 1)))) else (some (-1)))) else (some (-1))) else (some (-1))) = some r := H
          have A5 := Aside0.mk A50
          clear A50
          by_cases c6 : ((rd_T47 l0 x5_1).f0).toList = t381.toList
          · rw [if_pos c6] at H
            have c6b0 : (((rd_T47 l0 x5_1).f0).toList == t381.toList) = true := beq_iff_eq.mpr c6
            have c6b1 : (((rd_T47 l0 x5_1).f0).toList != t381.toList) = false := bne_eq_false_iff_eq.mpr c6
            clear c6
            by_cases c7 : ((rd_T47 l0 x5_1).f1) = (wrap64 (x1_1 + 1))
            · rw [if_pos c7] at H
              have c7b0 : (((rd_T47 l0 x5_1).f1) == (wrap64 (x1_1 + 1))) = true := beq_iff_eq.mpr c7
              have c7b1 : (((rd_T47 l0 x5_1).f1) != (wrap64 (x1_1 + 1))) = false := bne_eq_false_iff_eq.mpr c7
              clear c7
              replace H := Option.bind_eq_some_iff.mp H
              obtain ⟨t384, A80, H⟩ := H
              replace H : (if ((rd_T47 l0 x5_1).f2).toList = t384.toList then (if (((rd_T47 l0 x5_1).f3) != ((Int.tmod (wrap64 ((wrap64 ((wrap64 (x1_1 + 1)) + 1)) + 1)) 3) == 0)) = true then (some (-1)) else (laws_heldEntryS.l0 k1 l0 (wrap64 ((wrap64 ((wrap64 ((wrap64 (x1_1 + 1)) + 1)) + 1)) + 1)) (wrap64 (x5_1 + 1)))) else (some (-1))) = some r := H
              have A8 := Aside0.mk A80
              clear A80
              by_cases c9 : ((rd_T47 l0 x5_1).f2).toList = t384.toList
              · rw [if_pos c9] at H
                have c9b0 : (((rd_T47 l0 x5_1).f2).toList == t384.toList) = true := beq_iff_eq.mpr c9
                have c9b1 : (((rd_T47 l0 x5_1).f2).toList != t384.toList) = false := bne_eq_false_iff_eq.mpr c9
                clear c9
                by_cases c10 : (((rd_T47 l0 x5_1).f3) != ((Int.tmod (wrap64 ((wrap64 ((wrap64 (x1_1 + 1)) + 1)) + 1)) 3) == 0)) = true
                · rw [if_pos c10] at H
                  have c10b0 : (((rd_T47 l0 x5_1).f3) != ((Int.tmod (wrap64 ((wrap64 ((wrap64 (x1_1 + 1)) + 1)) + 1)) 3) == 0)) = true := c10
                  (try (have c10b1 : decide (((rd_T47 l0 x5_1).f3) = ((Int.tmod (wrap64 ((wrap64 ((wrap64 (x1_1 + 1)) + 1)) + 1)) 3) == 0)) = false := by simpa using c10))
                  (try (have c10b2 : (((rd_T47 l0 x5_1).f3) == ((Int.tmod (wrap64 ((wrap64 ((wrap64 (x1_1 + 1)) + 1)) + 1)) 3) == 0)) = false := by simpa using c10))
                  (try (have c10b3 : ¬ (((rd_T47 l0 x5_1).f3) = ((Int.tmod (wrap64 ((wrap64 ((wrap64 (x1_1 + 1)) + 1)) + 1)) 3) == 0)) := by simpa using c10))
                  clear c10
                  obtain rfl := Option.some.inj H
                  try go_wp2
                  have n0_ := Aside0.mk (below_drew1 HB.out)
                  clear HB
                  have HB := n0_
                  clear n0_
                  have p380 : 0 ≤ (x5_1 : Int) := of_decide_eq_true (by first | (with_reducible assumption) | assumption)
                  have q380 : x5_1 < (l0.length : Int) := of_decide_eq_true (by first | (with_reducible assumption) | assumption)
                  obtain ⟨ad380, e380, hx380_0, hx380_1, hx380_2, hx380_3⟩ := at_T47 HR0.out x5_1 p380 q380
                  have hw380_3 := hx380_3
                  have hw380_2 := hx380_2
                  have hw380_1 := hx380_1
                  have hw380_0 := hx380_0
                  cases e380
                  replace hx380_0 := (HB.out.cell (World.block_lt_of_cell? w _ hx380_0)).trans hx380_0
                  replace hx380_1 := (HB.out.cell (World.block_lt_of_cell? w _ hx380_1)).trans hx380_1
                  replace hx380_2 := (HB.out.cell (World.block_lt_of_cell? w _ hx380_2)).trans hx380_2
                  replace hx380_3 := (HB.out.cell (World.block_lt_of_cell? w _ hx380_3)).trans hx380_3
                  replace p380 := eq_true p380
                  replace q380 := eq_true q380
                  refine start_ (n := 8) (S := fun w' => w'.cell? (ad380.add ((x5_1).toNat * 4)) = some (.string ((rd_T47 l0 x5_1).f0)) ∧ w'.cell? ⟨(ad380.add ((x5_1).toNat * 4)).block, (ad380.add ((x5_1).toNat * 4)).off + 1, none⟩ = some (.int .i64 ((rd_T47 l0 x5_1).f1)) ∧ w'.cell? ⟨(ad380.add ((x5_1).toNat * 4)).block, (ad380.add ((x5_1).toNat * 4)).off + 2, none⟩ = some (.string ((rd_T47 l0 x5_1).f2)) ∧ w'.cell? ⟨(ad380.add ((x5_1).toNat * 4)).block, (ad380.add ((x5_1).toNat * 4)).off + 3, none⟩ = some (.bool ((rd_T47 l0 x5_1).f3))) (ds := []) #[false, false, false, false, false, false, false, false] (by kernel_rfl) rfl rfl ⟨((HB.out.cell (World.block_lt_of_cell? w _ hw380_0)).trans hw380_0), ((HB.out.cell (World.block_lt_of_cell? w _ hw380_1)).trans hw380_1), ((HB.out.cell (World.block_lt_of_cell? w _ hw380_2)).trans hw380_2), ((HB.out.cell (World.block_lt_of_cell? w _ hw380_3)).trans hw380_3)⟩ (fun hHeld => ?_); refine with_tabW laws_heldEntryS.tab4 laws_heldEntryS.bits4 (fun HT_ HW_ => ?_)
                  generalize wr.drew = w11 at HB hx380_0 hx380_1 hx380_2 hx380_3 hHeld ⊢
                  refine pure_ (i := 0) (N := some 12) (v := ?_) (a' := ?_) #[true, false, false, false, false, false, false, false] rfl rfl (any_of HT_.out (by kernel_rfl)) (fun _ _ _ h => h) (Or.inl ⟨by rfl, ?_⟩) ?_ ?_
                  rotate_left
                  · intro w'
                    go_simp
                    with_reducible rfl
                  rotate_left
                  · simp only [Act.put, List.setIfInBounds_toArray, List.set_cons_zero, List.set_cons_succ, i64_w, i32_w]
                    rfl
                  refine pure_ (i := 1) (N := some 13) (v := ?_) (a' := ?_) #[true, true, false, false, false, false, false, false] rfl rfl (any_of HT_.out (by kernel_rfl)) (fun _ _ _ h => h) (Or.inl ⟨by rfl, ?_⟩) ?_ ?_
                  rotate_left
                  · intro w'
                    go_simp
                    with_reducible rfl
                  rotate_left
                  · simp only [Act.put, List.setIfInBounds_toArray, List.set_cons_zero, List.set_cons_succ, i64_w, i32_w]
                    rfl
                  refine pure_ (i := 2) (N := some 14) (v := ?_) (a' := ?_) #[true, true, true, false, false, false, false, false] rfl rfl (any_of HT_.out (by kernel_rfl)) (fun _ _ _ h => h) (Or.inl ⟨by rfl, ?_⟩) ?_ ?_
                  rotate_left
                  · intro w'
                    go_simp
                    with_reducible rfl
                  rotate_left
                  · simp only [Act.put, List.setIfInBounds_toArray, List.set_cons_zero, List.set_cons_succ, i64_w, i32_w]
                    rfl
                  refine pure_ (i := 3) (N := some 15) (v := ?_) (a' := ?_) #[true, true, true, true, false, false, false, false] rfl rfl (any_of HT_.out (by kernel_rfl)) (fun _ _ _ h => h) (Or.inl ⟨by rfl, ?_⟩) ?_ ?_
                  rotate_left
                  · intro w'
                    go_simp
                    with_reducible rfl
                  rotate_left
                  · simp only [Act.put, List.setIfInBounds_toArray, List.set_cons_zero, List.set_cons_succ, i64_w, i32_w]
                    rfl
                  refine pure_ (i := 5) (N := some 17) (v := ?_) (a' := ?_) #[true, true, true, true, false, true, false, false] rfl rfl (any_of HT_.out (by kernel_rfl)) (fun _ _ _ h => h) (Or.inl ⟨by rfl, ?_⟩) ?_ ?_
                  rotate_left
                  · intro w'
                    go_simp
                    with_reducible rfl
                  rotate_left
                  · simp only [Act.put, List.setIfInBounds_toArray, List.set_cons_zero, List.set_cons_succ, i64_w, i32_w]
                    rfl
                  refine take_ (i := 4) (N := some 16) (v := ?_) (a' := ?_) #[true, true, true, true, true, true, false, false] rfl rfl (take_ofW HT_.out HW_.out (by kernel_rfl)) (fun _ _ _ h => h) (Or.inl ⟨by rfl, ?_⟩) hHeld ?_ ?_
                  rotate_left
                  · rintro w' ⟨s0, s1, s2, s3⟩
                    go_simp
                    with_reducible rfl
                  rotate_left
                  · simp only [Act.put, List.setIfInBounds_toArray, List.set_cons_zero, List.set_cons_succ, i64_w, i32_w]
                    rfl
                  refine one_ (i := 6) (N := some 18) #[true, true, true, true, true, true, true, false] rfl rfl (one_of HT_.out (by kernel_rfl)) (by decide) (fun K hK => ?_)
                  refine goes_ Tryd.func51 (by kernel_rfl) rfl #[.int .i64 x1_1] (by rfl) rfl rfl (by (try simp only [List.map_toArray, List.map_cons, List.map_nil]); first | done | rfl | (simp only [List.length_drop, List.length_take]; rfl)) ?_
                  with_reducible refine (laws_markText.calls k1 x1_1 t381 _ A5.out).mono ?_
                  rintro e w12 ⟨rfl, hb⟩
                  refine ⟨_, rfl, ?_⟩
                  have n0_ := Aside0.mk (below_step (by repeat (first | (with_reducible first | exact HB.out | apply below_alloc | apply pw_below_drewN | apply below_drew1) | exact HB.out)) hb)
                  clear HB
                  have HB := n0_
                  clear n0_
                  (try clear hb)
                  (try clear hb2)
                  (try clear hk)
                  (try clear hi)
                  refine hK.out _ _ ⟨((HB.out.cell (World.block_lt_of_cell? w _ hw380_0)).trans hw380_0), ((HB.out.cell (World.block_lt_of_cell? w _ hw380_1)).trans hw380_1), ((HB.out.cell (World.block_lt_of_cell? w _ hw380_2)).trans hw380_2), ((HB.out.cell (World.block_lt_of_cell? w _ hw380_3)).trans hw380_3)⟩ (fun hHeld => ?_)
                  clear hK K
                  refine norm_ (a' := ?_) ?_ ?_
                  rotate_left
                  · show Act.put _ (some 18) _ = _
                    simp only [Act.put, List.setIfInBounds_toArray, List.set_cons_zero, List.set_cons_succ, i64_w, i32_w]
                    rfl
                  refine pure_ (i := 7) (N := some 19) (v := ?_) (a' := ?_) #[true, true, true, true, true, true, true, true] rfl rfl (any_of HT_.out (by kernel_rfl)) (fun _ _ _ h => h) (Or.inl ⟨by rfl, ?_⟩) ?_ ?_
                  rotate_left
                  · intro w'
                    go_simp
                    with_reducible rfl
                  rotate_left
                  · simp only [Act.put, List.setIfInBounds_toArray, List.set_cons_zero, List.set_cons_succ, i64_w, i32_w]
                    rfl
                  refine done_ (done_of HT_.out (by kernel_rfl)) ?_
                  have p382 : 0 ≤ (x5_1 : Int) := of_decide_eq_true (by first | (with_reducible assumption) | assumption)
                  have q382 : x5_1 < (l0.length : Int) := of_decide_eq_true (by first | (with_reducible assumption) | assumption)
                  obtain ⟨ad382, e382, hx382_0, hx382_1, hx382_2, hx382_3⟩ := at_T47 HR0.out x5_1 p382 q382
                  obtain rfl : ad380 = ad382 := (by injection e382)
                  replace hx382_0 := (HB.out.cell (World.block_lt_of_cell? w _ hx382_0)).trans hx382_0
                  replace hx382_1 := (HB.out.cell (World.block_lt_of_cell? w _ hx382_1)).trans hx382_1
                  replace hx382_2 := (HB.out.cell (World.block_lt_of_cell? w _ hx382_2)).trans hx382_2
                  replace hx382_3 := (HB.out.cell (World.block_lt_of_cell? w _ hx382_3)).trans hx382_3
                  replace p382 := eq_true p382
                  replace q382 := eq_true q382
                  try go_wp2
                  have n0_ := Aside0.mk (below_drew1 HB.out)
                  clear HB
                  have HB := n0_
                  clear n0_
                  have p383 : 0 ≤ (x5_1 : Int) := of_decide_eq_true (by first | (with_reducible assumption) | assumption)
                  have q383 : x5_1 < (l0.length : Int) := of_decide_eq_true (by first | (with_reducible assumption) | assumption)
                  obtain ⟨ad383, e383, hx383_0, hx383_1, hx383_2, hx383_3⟩ := at_T47 HR0.out x5_1 p383 q383
                  have hw383_3 := hx383_3
                  have hw383_2 := hx383_2
                  have hw383_1 := hx383_1
                  have hw383_0 := hx383_0
                  obtain rfl : ad380 = ad383 := (by injection e383)
                  replace hx383_0 := (HB.out.cell (World.block_lt_of_cell? w _ hx383_0)).trans hx383_0
                  replace hx383_1 := (HB.out.cell (World.block_lt_of_cell? w _ hx383_1)).trans hx383_1
                  replace hx383_2 := (HB.out.cell (World.block_lt_of_cell? w _ hx383_2)).trans hx383_2
                  replace hx383_3 := (HB.out.cell (World.block_lt_of_cell? w _ hx383_3)).trans hx383_3
                  replace p383 := eq_true p383
                  replace q383 := eq_true q383
                  refine start_ (n := 8) (S := fun w' => w'.cell? (ad380.add ((x5_1).toNat * 4)) = some (.string ((rd_T47 l0 x5_1).f0)) ∧ w'.cell? ⟨(ad380.add ((x5_1).toNat * 4)).block, (ad380.add ((x5_1).toNat * 4)).off + 1, none⟩ = some (.int .i64 ((rd_T47 l0 x5_1).f1)) ∧ w'.cell? ⟨(ad380.add ((x5_1).toNat * 4)).block, (ad380.add ((x5_1).toNat * 4)).off + 2, none⟩ = some (.string ((rd_T47 l0 x5_1).f2)) ∧ w'.cell? ⟨(ad380.add ((x5_1).toNat * 4)).block, (ad380.add ((x5_1).toNat * 4)).off + 3, none⟩ = some (.bool ((rd_T47 l0 x5_1).f3))) (ds := []) #[false, false, false, false, false, false, false, false] (by kernel_rfl) rfl rfl ⟨((HB.out.cell (World.block_lt_of_cell? w _ hw383_0)).trans hw383_0), ((HB.out.cell (World.block_lt_of_cell? w _ hw383_1)).trans hw383_1), ((HB.out.cell (World.block_lt_of_cell? w _ hw383_2)).trans hw383_2), ((HB.out.cell (World.block_lt_of_cell? w _ hw383_3)).trans hw383_3)⟩ (fun hHeld => ?_); refine with_tabW laws_heldEntryS.tab10 laws_heldEntryS.bits10 (fun HT_ HW_ => ?_)
                  generalize w12.drew = w13 at HB hx383_0 hx383_1 hx383_2 hx383_3 hHeld ⊢
                  refine pure_ (i := 0) (N := some 31) (v := ?_) (a' := ?_) #[true, false, false, false, false, false, false, false] rfl rfl (any_of HT_.out (by kernel_rfl)) (fun _ _ _ h => h) (Or.inl ⟨by rfl, ?_⟩) ?_ ?_
                  rotate_left
                  · intro w'
                    go_simp
                    with_reducible rfl
                  rotate_left
                  · simp only [Act.put, List.setIfInBounds_toArray, List.set_cons_zero, List.set_cons_succ, i64_w, i32_w]
                    rfl
                  refine pure_ (i := 1) (N := some 32) (v := ?_) (a' := ?_) #[true, true, false, false, false, false, false, false] rfl rfl (any_of HT_.out (by kernel_rfl)) (fun _ _ _ h => h) (Or.inl ⟨by rfl, ?_⟩) ?_ ?_
                  rotate_left
                  · intro w'
                    go_simp
                    with_reducible rfl
                  rotate_left
                  · simp only [Act.put, List.setIfInBounds_toArray, List.set_cons_zero, List.set_cons_succ, i64_w, i32_w]
                    rfl
                  refine pure_ (i := 2) (N := some 33) (v := ?_) (a' := ?_) #[true, true, true, false, false, false, false, false] rfl rfl (any_of HT_.out (by kernel_rfl)) (fun _ _ _ h => h) (Or.inl ⟨by rfl, ?_⟩) ?_ ?_
                  rotate_left
                  · intro w'
                    go_simp
                    with_reducible rfl
                  rotate_left
                  · simp only [Act.put, List.setIfInBounds_toArray, List.set_cons_zero, List.set_cons_succ, i64_w, i32_w]
                    rfl
                  refine pure_ (i := 3) (N := some 34) (v := ?_) (a' := ?_) #[true, true, true, true, false, false, false, false] rfl rfl (any_of HT_.out (by kernel_rfl)) (fun _ _ _ h => h) (Or.inl ⟨by rfl, ?_⟩) ?_ ?_
                  rotate_left
                  · intro w'
                    go_simp
                    with_reducible rfl
                  rotate_left
                  · simp only [Act.put, List.setIfInBounds_toArray, List.set_cons_zero, List.set_cons_succ, i64_w, i32_w]
                    rfl
                  refine pure_ (i := 5) (N := some 36) (v := ?_) (a' := ?_) #[true, true, true, true, false, true, false, false] rfl rfl (any_of HT_.out (by kernel_rfl)) (fun _ _ _ h => h) (Or.inl ⟨by rfl, ?_⟩) ?_ ?_
                  rotate_left
                  · intro w'
                    go_simp
                    with_reducible rfl
                  rotate_left
                  · simp only [Act.put, List.setIfInBounds_toArray, List.set_cons_zero, List.set_cons_succ, i64_w, i32_w]
                    rfl
                  refine take_ (i := 4) (N := some 35) (v := ?_) (a' := ?_) #[true, true, true, true, true, true, false, false] rfl rfl (take_ofW HT_.out HW_.out (by kernel_rfl)) (fun _ _ _ h => h) (Or.inl ⟨by rfl, ?_⟩) hHeld ?_ ?_
                  rotate_left
                  · rintro w' ⟨s0, s1, s2, s3⟩
                    go_simp
                    with_reducible rfl
                  rotate_left
                  · simp only [Act.put, List.setIfInBounds_toArray, List.set_cons_zero, List.set_cons_succ, i64_w, i32_w]
                    rfl
                  refine one_ (i := 6) (N := some 37) #[true, true, true, true, true, true, true, false] rfl rfl (one_of HT_.out (by kernel_rfl)) (by decide) (fun K hK => ?_)
                  refine goes_ Tryd.func51 (by kernel_rfl) rfl #[.int .i64 (wrap64 ((wrap64 (x1_1 + 1)) + 1))] (by rfl) rfl rfl (by (try simp only [List.map_toArray, List.map_cons, List.map_nil]); first | done | rfl | (simp only [List.length_drop, List.length_take]; rfl)) ?_
                  with_reducible refine (laws_markText.calls k1 (wrap64 ((wrap64 (x1_1 + 1)) + 1)) t384 _ A8.out).mono ?_
                  rintro e w14 ⟨rfl, hb⟩
                  refine ⟨_, rfl, ?_⟩
                  have n0_ := Aside0.mk (below_step (by repeat (first | (with_reducible first | exact HB.out | apply below_alloc | apply pw_below_drewN | apply below_drew1) | exact HB.out)) hb)
                  clear HB
                  have HB := n0_
                  clear n0_
                  (try clear hb)
                  (try clear hb2)
                  (try clear hk)
                  (try clear hi)
                  refine hK.out _ _ ⟨((HB.out.cell (World.block_lt_of_cell? w _ hw383_0)).trans hw383_0), ((HB.out.cell (World.block_lt_of_cell? w _ hw383_1)).trans hw383_1), ((HB.out.cell (World.block_lt_of_cell? w _ hw383_2)).trans hw383_2), ((HB.out.cell (World.block_lt_of_cell? w _ hw383_3)).trans hw383_3)⟩ (fun hHeld => ?_)
                  clear hK K
                  refine norm_ (a' := ?_) ?_ ?_
                  rotate_left
                  · show Act.put _ (some 37) _ = _
                    simp only [Act.put, List.setIfInBounds_toArray, List.set_cons_zero, List.set_cons_succ, i64_w, i32_w]
                    rfl
                  refine pure_ (i := 7) (N := some 38) (v := ?_) (a' := ?_) #[true, true, true, true, true, true, true, true] rfl rfl (any_of HT_.out (by kernel_rfl)) (fun _ _ _ h => h) (Or.inl ⟨by rfl, ?_⟩) ?_ ?_
                  rotate_left
                  · intro w'
                    go_simp
                    with_reducible rfl
                  rotate_left
                  · simp only [Act.put, List.setIfInBounds_toArray, List.set_cons_zero, List.set_cons_succ, i64_w, i32_w]
                    rfl
                  refine done_ (done_of HT_.out (by kernel_rfl)) ?_
                  have p385 : 0 ≤ (x5_1 : Int) := of_decide_eq_true (by first | (with_reducible assumption) | assumption)
                  have q385 : x5_1 < (l0.length : Int) := of_decide_eq_true (by first | (with_reducible assumption) | assumption)
                  obtain ⟨ad385, e385, hx385_0, hx385_1, hx385_2, hx385_3⟩ := at_T47 HR0.out x5_1 p385 q385
                  obtain rfl : ad380 = ad385 := (by injection e385)
                  replace hx385_0 := (HB.out.cell (World.block_lt_of_cell? w _ hx385_0)).trans hx385_0
                  replace hx385_1 := (HB.out.cell (World.block_lt_of_cell? w _ hx385_1)).trans hx385_1
                  replace hx385_2 := (HB.out.cell (World.block_lt_of_cell? w _ hx385_2)).trans hx385_2
                  replace hx385_3 := (HB.out.cell (World.block_lt_of_cell? w _ hx385_3)).trans hx385_3
                  replace p385 := eq_true p385
                  replace q385 := eq_true q385
                  try go_wp2
                  go_ret
                  exact ⟨by first | rfl | (simp [errW_none, errW_some] <;> rfl) | (simp [*, errW_none, errW_some] <;> rfl), by repeat (first | (with_reducible first | exact HB.out | apply below_alloc | apply pw_below_drewN | apply below_drew1) | exact HB.out)⟩
                · rw [if_neg c10] at H
                  have c10b0 : (((rd_T47 l0 x5_1).f3) != ((Int.tmod (wrap64 ((wrap64 ((wrap64 (x1_1 + 1)) + 1)) + 1)) 3) == 0)) = false := by simpa using c10
                  (try (have c10b1 : decide (((rd_T47 l0 x5_1).f3) = ((Int.tmod (wrap64 ((wrap64 ((wrap64 (x1_1 + 1)) + 1)) + 1)) 3) == 0)) = true := by simpa using c10))
                  (try (have c10b2 : (((rd_T47 l0 x5_1).f3) == ((Int.tmod (wrap64 ((wrap64 ((wrap64 (x1_1 + 1)) + 1)) + 1)) 3) == 0)) = true := by simpa using c10))
                  clear c10
                  have H' := Aside0.mk H
                  clear H
                  try go_wp2
                  have n0_ := Aside0.mk (below_drew1 HB.out)
                  clear HB
                  have HB := n0_
                  clear n0_
                  have p380 : 0 ≤ (x5_1 : Int) := of_decide_eq_true (by first | (with_reducible assumption) | assumption)
                  have q380 : x5_1 < (l0.length : Int) := of_decide_eq_true (by first | (with_reducible assumption) | assumption)
                  obtain ⟨ad380, e380, hx380_0, hx380_1, hx380_2, hx380_3⟩ := at_T47 HR0.out x5_1 p380 q380
                  have hw380_3 := hx380_3
                  have hw380_2 := hx380_2
                  have hw380_1 := hx380_1
                  have hw380_0 := hx380_0
                  cases e380
                  replace hx380_0 := (HB.out.cell (World.block_lt_of_cell? w _ hx380_0)).trans hx380_0
                  replace hx380_1 := (HB.out.cell (World.block_lt_of_cell? w _ hx380_1)).trans hx380_1
                  replace hx380_2 := (HB.out.cell (World.block_lt_of_cell? w _ hx380_2)).trans hx380_2
                  replace hx380_3 := (HB.out.cell (World.block_lt_of_cell? w _ hx380_3)).trans hx380_3
                  replace p380 := eq_true p380
                  replace q380 := eq_true q380
                  refine start_ (n := 8) (S := fun w' => w'.cell? (ad380.add ((x5_1).toNat * 4)) = some (.string ((rd_T47 l0 x5_1).f0)) ∧ w'.cell? ⟨(ad380.add ((x5_1).toNat * 4)).block, (ad380.add ((x5_1).toNat * 4)).off + 1, none⟩ = some (.int .i64 ((rd_T47 l0 x5_1).f1)) ∧ w'.cell? ⟨(ad380.add ((x5_1).toNat * 4)).block, (ad380.add ((x5_1).toNat * 4)).off + 2, none⟩ = some (.string ((rd_T47 l0 x5_1).f2)) ∧ w'.cell? ⟨(ad380.add ((x5_1).toNat * 4)).block, (ad380.add ((x5_1).toNat * 4)).off + 3, none⟩ = some (.bool ((rd_T47 l0 x5_1).f3))) (ds := []) #[false, false, false, false, false, false, false, false] (by kernel_rfl) rfl rfl ⟨((HB.out.cell (World.block_lt_of_cell? w _ hw380_0)).trans hw380_0), ((HB.out.cell (World.block_lt_of_cell? w _ hw380_1)).trans hw380_1), ((HB.out.cell (World.block_lt_of_cell? w _ hw380_2)).trans hw380_2), ((HB.out.cell (World.block_lt_of_cell? w _ hw380_3)).trans hw380_3)⟩ (fun hHeld => ?_); refine with_tabW laws_heldEntryS.tab4 laws_heldEntryS.bits4 (fun HT_ HW_ => ?_)
                  generalize wr.drew = w15 at HB hx380_0 hx380_1 hx380_2 hx380_3 hHeld ⊢
                  refine pure_ (i := 0) (N := some 12) (v := ?_) (a' := ?_) #[true, false, false, false, false, false, false, false] rfl rfl (any_of HT_.out (by kernel_rfl)) (fun _ _ _ h => h) (Or.inl ⟨by rfl, ?_⟩) ?_ ?_
                  rotate_left
                  · intro w'
                    go_simp
                    with_reducible rfl
                  rotate_left
                  · simp only [Act.put, List.setIfInBounds_toArray, List.set_cons_zero, List.set_cons_succ, i64_w, i32_w]
                    rfl
                  refine pure_ (i := 1) (N := some 13) (v := ?_) (a' := ?_) #[true, true, false, false, false, false, false, false] rfl rfl (any_of HT_.out (by kernel_rfl)) (fun _ _ _ h => h) (Or.inl ⟨by rfl, ?_⟩) ?_ ?_
                  rotate_left
                  · intro w'
                    go_simp
                    with_reducible rfl
                  rotate_left
                  · simp only [Act.put, List.setIfInBounds_toArray, List.set_cons_zero, List.set_cons_succ, i64_w, i32_w]
                    rfl
                  refine pure_ (i := 2) (N := some 14) (v := ?_) (a' := ?_) #[true, true, true, false, false, false, false, false] rfl rfl (any_of HT_.out (by kernel_rfl)) (fun _ _ _ h => h) (Or.inl ⟨by rfl, ?_⟩) ?_ ?_
                  rotate_left
                  · intro w'
                    go_simp
                    with_reducible rfl
                  rotate_left
                  · simp only [Act.put, List.setIfInBounds_toArray, List.set_cons_zero, List.set_cons_succ, i64_w, i32_w]
                    rfl
                  refine pure_ (i := 3) (N := some 15) (v := ?_) (a' := ?_) #[true, true, true, true, false, false, false, false] rfl rfl (any_of HT_.out (by kernel_rfl)) (fun _ _ _ h => h) (Or.inl ⟨by rfl, ?_⟩) ?_ ?_
                  rotate_left
                  · intro w'
                    go_simp
                    with_reducible rfl
                  rotate_left
                  · simp only [Act.put, List.setIfInBounds_toArray, List.set_cons_zero, List.set_cons_succ, i64_w, i32_w]
                    rfl
                  refine pure_ (i := 5) (N := some 17) (v := ?_) (a' := ?_) #[true, true, true, true, false, true, false, false] rfl rfl (any_of HT_.out (by kernel_rfl)) (fun _ _ _ h => h) (Or.inl ⟨by rfl, ?_⟩) ?_ ?_
                  rotate_left
                  · intro w'
                    go_simp
                    with_reducible rfl
                  rotate_left
                  · simp only [Act.put, List.setIfInBounds_toArray, List.set_cons_zero, List.set_cons_succ, i64_w, i32_w]
                    rfl
                  refine take_ (i := 4) (N := some 16) (v := ?_) (a' := ?_) #[true, true, true, true, true, true, false, false] rfl rfl (take_ofW HT_.out HW_.out (by kernel_rfl)) (fun _ _ _ h => h) (Or.inl ⟨by rfl, ?_⟩) hHeld ?_ ?_
                  rotate_left
                  · rintro w' ⟨s0, s1, s2, s3⟩
                    go_simp
                    with_reducible rfl
                  rotate_left
                  · simp only [Act.put, List.setIfInBounds_toArray, List.set_cons_zero, List.set_cons_succ, i64_w, i32_w]
                    rfl
                  refine one_ (i := 6) (N := some 18) #[true, true, true, true, true, true, true, false] rfl rfl (one_of HT_.out (by kernel_rfl)) (by decide) (fun K hK => ?_)
                  refine goes_ Tryd.func51 (by kernel_rfl) rfl #[.int .i64 x1_1] (by rfl) rfl rfl (by (try simp only [List.map_toArray, List.map_cons, List.map_nil]); first | done | rfl | (simp only [List.length_drop, List.length_take]; rfl)) ?_
                  with_reducible refine (laws_markText.calls k1 x1_1 t381 _ A5.out).mono ?_
                  rintro e w16 ⟨rfl, hb⟩
                  refine ⟨_, rfl, ?_⟩
                  have n0_ := Aside0.mk (below_step (by repeat (first | (with_reducible first | exact HB.out | apply below_alloc | apply pw_below_drewN | apply below_drew1) | exact HB.out)) hb)
                  clear HB
                  have HB := n0_
                  clear n0_
                  (try clear hb)
                  (try clear hb2)
                  (try clear hk)
                  (try clear hi)
                  refine hK.out _ _ ⟨((HB.out.cell (World.block_lt_of_cell? w _ hw380_0)).trans hw380_0), ((HB.out.cell (World.block_lt_of_cell? w _ hw380_1)).trans hw380_1), ((HB.out.cell (World.block_lt_of_cell? w _ hw380_2)).trans hw380_2), ((HB.out.cell (World.block_lt_of_cell? w _ hw380_3)).trans hw380_3)⟩ (fun hHeld => ?_)
                  clear hK K
                  refine norm_ (a' := ?_) ?_ ?_
                  rotate_left
                  · show Act.put _ (some 18) _ = _
                    simp only [Act.put, List.setIfInBounds_toArray, List.set_cons_zero, List.set_cons_succ, i64_w, i32_w]
                    rfl
                  refine pure_ (i := 7) (N := some 19) (v := ?_) (a' := ?_) #[true, true, true, true, true, true, true, true] rfl rfl (any_of HT_.out (by kernel_rfl)) (fun _ _ _ h => h) (Or.inl ⟨by rfl, ?_⟩) ?_ ?_
                  rotate_left
                  · intro w'
                    go_simp
                    with_reducible rfl
                  rotate_left
                  · simp only [Act.put, List.setIfInBounds_toArray, List.set_cons_zero, List.set_cons_succ, i64_w, i32_w]
                    rfl
                  refine done_ (done_of HT_.out (by kernel_rfl)) ?_
                  have p382 : 0 ≤ (x5_1 : Int) := of_decide_eq_true (by first | (with_reducible assumption) | assumption)
                  have q382 : x5_1 < (l0.length : Int) := of_decide_eq_true (by first | (with_reducible assumption) | assumption)
                  obtain ⟨ad382, e382, hx382_0, hx382_1, hx382_2, hx382_3⟩ := at_T47 HR0.out x5_1 p382 q382
                  obtain rfl : ad380 = ad382 := (by injection e382)
                  replace hx382_0 := (HB.out.cell (World.block_lt_of_cell? w _ hx382_0)).trans hx382_0
                  replace hx382_1 := (HB.out.cell (World.block_lt_of_cell? w _ hx382_1)).trans hx382_1
                  replace hx382_2 := (HB.out.cell (World.block_lt_of_cell? w _ hx382_2)).trans hx382_2
                  replace hx382_3 := (HB.out.cell (World.block_lt_of_cell? w _ hx382_3)).trans hx382_3
                  replace p382 := eq_true p382
                  replace q382 := eq_true q382
                  try go_wp2
                  have n0_ := Aside0.mk (below_drew1 HB.out)
                  clear HB
                  have HB := n0_
                  clear n0_
                  have p383 : 0 ≤ (x5_1 : Int) := of_decide_eq_true (by first | (with_reducible assumption) | assumption)
                  have q383 : x5_1 < (l0.length : Int) := of_decide_eq_true (by first | (with_reducible assumption) | assumption)
                  obtain ⟨ad383, e383, hx383_0, hx383_1, hx383_2, hx383_3⟩ := at_T47 HR0.out x5_1 p383 q383
                  have hw383_3 := hx383_3
                  have hw383_2 := hx383_2
                  have hw383_1 := hx383_1
                  have hw383_0 := hx383_0
                  obtain rfl : ad380 = ad383 := (by injection e383)
                  replace hx383_0 := (HB.out.cell (World.block_lt_of_cell? w _ hx383_0)).trans hx383_0
                  replace hx383_1 := (HB.out.cell (World.block_lt_of_cell? w _ hx383_1)).trans hx383_1
                  replace hx383_2 := (HB.out.cell (World.block_lt_of_cell? w _ hx383_2)).trans hx383_2
                  replace hx383_3 := (HB.out.cell (World.block_lt_of_cell? w _ hx383_3)).trans hx383_3
                  replace p383 := eq_true p383
                  replace q383 := eq_true q383
                  refine start_ (n := 8) (S := fun w' => w'.cell? (ad380.add ((x5_1).toNat * 4)) = some (.string ((rd_T47 l0 x5_1).f0)) ∧ w'.cell? ⟨(ad380.add ((x5_1).toNat * 4)).block, (ad380.add ((x5_1).toNat * 4)).off + 1, none⟩ = some (.int .i64 ((rd_T47 l0 x5_1).f1)) ∧ w'.cell? ⟨(ad380.add ((x5_1).toNat * 4)).block, (ad380.add ((x5_1).toNat * 4)).off + 2, none⟩ = some (.string ((rd_T47 l0 x5_1).f2)) ∧ w'.cell? ⟨(ad380.add ((x5_1).toNat * 4)).block, (ad380.add ((x5_1).toNat * 4)).off + 3, none⟩ = some (.bool ((rd_T47 l0 x5_1).f3))) (ds := []) #[false, false, false, false, false, false, false, false] (by kernel_rfl) rfl rfl ⟨((HB.out.cell (World.block_lt_of_cell? w _ hw383_0)).trans hw383_0), ((HB.out.cell (World.block_lt_of_cell? w _ hw383_1)).trans hw383_1), ((HB.out.cell (World.block_lt_of_cell? w _ hw383_2)).trans hw383_2), ((HB.out.cell (World.block_lt_of_cell? w _ hw383_3)).trans hw383_3)⟩ (fun hHeld => ?_); refine with_tabW laws_heldEntryS.tab10 laws_heldEntryS.bits10 (fun HT_ HW_ => ?_)
                  generalize w16.drew = w17 at HB hx383_0 hx383_1 hx383_2 hx383_3 hHeld ⊢
                  refine pure_ (i := 0) (N := some 31) (v := ?_) (a' := ?_) #[true, false, false, false, false, false, false, false] rfl rfl (any_of HT_.out (by kernel_rfl)) (fun _ _ _ h => h) (Or.inl ⟨by rfl, ?_⟩) ?_ ?_
                  rotate_left
                  · intro w'
                    go_simp
                    with_reducible rfl
                  rotate_left
                  · simp only [Act.put, List.setIfInBounds_toArray, List.set_cons_zero, List.set_cons_succ, i64_w, i32_w]
                    rfl
                  refine pure_ (i := 1) (N := some 32) (v := ?_) (a' := ?_) #[true, true, false, false, false, false, false, false] rfl rfl (any_of HT_.out (by kernel_rfl)) (fun _ _ _ h => h) (Or.inl ⟨by rfl, ?_⟩) ?_ ?_
                  rotate_left
                  · intro w'
                    go_simp
                    with_reducible rfl
                  rotate_left
                  · simp only [Act.put, List.setIfInBounds_toArray, List.set_cons_zero, List.set_cons_succ, i64_w, i32_w]
                    rfl
                  refine pure_ (i := 2) (N := some 33) (v := ?_) (a' := ?_) #[true, true, true, false, false, false, false, false] rfl rfl (any_of HT_.out (by kernel_rfl)) (fun _ _ _ h => h) (Or.inl ⟨by rfl, ?_⟩) ?_ ?_
                  rotate_left
                  · intro w'
                    go_simp
                    with_reducible rfl
                  rotate_left
                  · simp only [Act.put, List.setIfInBounds_toArray, List.set_cons_zero, List.set_cons_succ, i64_w, i32_w]
                    rfl
                  refine pure_ (i := 3) (N := some 34) (v := ?_) (a' := ?_) #[true, true, true, true, false, false, false, false] rfl rfl (any_of HT_.out (by kernel_rfl)) (fun _ _ _ h => h) (Or.inl ⟨by rfl, ?_⟩) ?_ ?_
                  rotate_left
                  · intro w'
                    go_simp
                    with_reducible rfl
                  rotate_left
                  · simp only [Act.put, List.setIfInBounds_toArray, List.set_cons_zero, List.set_cons_succ, i64_w, i32_w]
                    rfl
                  refine pure_ (i := 5) (N := some 36) (v := ?_) (a' := ?_) #[true, true, true, true, false, true, false, false] rfl rfl (any_of HT_.out (by kernel_rfl)) (fun _ _ _ h => h) (Or.inl ⟨by rfl, ?_⟩) ?_ ?_
                  rotate_left
                  · intro w'
                    go_simp
                    with_reducible rfl
                  rotate_left
                  · simp only [Act.put, List.setIfInBounds_toArray, List.set_cons_zero, List.set_cons_succ, i64_w, i32_w]
                    rfl
                  refine take_ (i := 4) (N := some 35) (v := ?_) (a' := ?_) #[true, true, true, true, true, true, false, false] rfl rfl (take_ofW HT_.out HW_.out (by kernel_rfl)) (fun _ _ _ h => h) (Or.inl ⟨by rfl, ?_⟩) hHeld ?_ ?_
                  rotate_left
                  · rintro w' ⟨s0, s1, s2, s3⟩
                    go_simp
                    with_reducible rfl
                  rotate_left
                  · simp only [Act.put, List.setIfInBounds_toArray, List.set_cons_zero, List.set_cons_succ, i64_w, i32_w]
                    rfl
                  refine one_ (i := 6) (N := some 37) #[true, true, true, true, true, true, true, false] rfl rfl (one_of HT_.out (by kernel_rfl)) (by decide) (fun K hK => ?_)
                  refine goes_ Tryd.func51 (by kernel_rfl) rfl #[.int .i64 (wrap64 ((wrap64 (x1_1 + 1)) + 1))] (by rfl) rfl rfl (by (try simp only [List.map_toArray, List.map_cons, List.map_nil]); first | done | rfl | (simp only [List.length_drop, List.length_take]; rfl)) ?_
                  with_reducible refine (laws_markText.calls k1 (wrap64 ((wrap64 (x1_1 + 1)) + 1)) t384 _ A8.out).mono ?_
                  rintro e w18 ⟨rfl, hb⟩
                  refine ⟨_, rfl, ?_⟩
                  have n0_ := Aside0.mk (below_step (by repeat (first | (with_reducible first | exact HB.out | apply below_alloc | apply pw_below_drewN | apply below_drew1) | exact HB.out)) hb)
                  clear HB
                  have HB := n0_
                  clear n0_
                  (try clear hb)
                  (try clear hb2)
                  (try clear hk)
                  (try clear hi)
                  refine hK.out _ _ ⟨((HB.out.cell (World.block_lt_of_cell? w _ hw383_0)).trans hw383_0), ((HB.out.cell (World.block_lt_of_cell? w _ hw383_1)).trans hw383_1), ((HB.out.cell (World.block_lt_of_cell? w _ hw383_2)).trans hw383_2), ((HB.out.cell (World.block_lt_of_cell? w _ hw383_3)).trans hw383_3)⟩ (fun hHeld => ?_)
                  clear hK K
                  refine norm_ (a' := ?_) ?_ ?_
                  rotate_left
                  · show Act.put _ (some 37) _ = _
                    simp only [Act.put, List.setIfInBounds_toArray, List.set_cons_zero, List.set_cons_succ, i64_w, i32_w]
                    rfl
                  refine pure_ (i := 7) (N := some 38) (v := ?_) (a' := ?_) #[true, true, true, true, true, true, true, true] rfl rfl (any_of HT_.out (by kernel_rfl)) (fun _ _ _ h => h) (Or.inl ⟨by rfl, ?_⟩) ?_ ?_
                  rotate_left
                  · intro w'
                    go_simp
                    with_reducible rfl
                  rotate_left
                  · simp only [Act.put, List.setIfInBounds_toArray, List.set_cons_zero, List.set_cons_succ, i64_w, i32_w]
                    rfl
                  refine done_ (done_of HT_.out (by kernel_rfl)) ?_
                  have p385 : 0 ≤ (x5_1 : Int) := of_decide_eq_true (by first | (with_reducible assumption) | assumption)
                  have q385 : x5_1 < (l0.length : Int) := of_decide_eq_true (by first | (with_reducible assumption) | assumption)
                  obtain ⟨ad385, e385, hx385_0, hx385_1, hx385_2, hx385_3⟩ := at_T47 HR0.out x5_1 p385 q385
                  obtain rfl : ad380 = ad385 := (by injection e385)
                  replace hx385_0 := (HB.out.cell (World.block_lt_of_cell? w _ hx385_0)).trans hx385_0
                  replace hx385_1 := (HB.out.cell (World.block_lt_of_cell? w _ hx385_1)).trans hx385_1
                  replace hx385_2 := (HB.out.cell (World.block_lt_of_cell? w _ hx385_2)).trans hx385_2
                  replace hx385_3 := (HB.out.cell (World.block_lt_of_cell? w _ hx385_3)).trans hx385_3
                  replace p385 := eq_true p385
                  replace q385 := eq_true q385
                  try go_wp2
                  go_roundg k1
                  case measure => have := HK1.out; omega
                  case rel => exact ⟨(wrap64 ((wrap64 ((wrap64 ((wrap64 (x1_1 + 1)) + 1)) + 1)) + 1)), (wrap64 (x5_1 + 1)), (by first | rfl | (simp; done) | (simp [*]; done)), (by first | rfl | (simp; done) | (simp [*]; done)), H', ⟨by have := HK1.out; omega⟩, ⟨by repeat (first | (with_reducible first | exact HB.out | apply below_alloc | apply pw_below_drewN | apply below_drew1) | exact HB.out)⟩⟩
              · rw [if_neg c9] at H
                have c9b0 : (((rd_T47 l0 x5_1).f2).toList == t384.toList) = false := beq_eq_false_iff_ne.mpr c9
                have c9b1 : (((rd_T47 l0 x5_1).f2).toList != t384.toList) = true := bne_iff_ne.mpr c9
                obtain rfl := Option.some.inj H
                try go_wp2
                have n0_ := Aside0.mk (below_drew1 HB.out)
                clear HB
                have HB := n0_
                clear n0_
                have p380 : 0 ≤ (x5_1 : Int) := of_decide_eq_true (by first | (with_reducible assumption) | assumption)
                have q380 : x5_1 < (l0.length : Int) := of_decide_eq_true (by first | (with_reducible assumption) | assumption)
                obtain ⟨ad380, e380, hx380_0, hx380_1, hx380_2, hx380_3⟩ := at_T47 HR0.out x5_1 p380 q380
                have hw380_3 := hx380_3
                have hw380_2 := hx380_2
                have hw380_1 := hx380_1
                have hw380_0 := hx380_0
                cases e380
                replace hx380_0 := (HB.out.cell (World.block_lt_of_cell? w _ hx380_0)).trans hx380_0
                replace hx380_1 := (HB.out.cell (World.block_lt_of_cell? w _ hx380_1)).trans hx380_1
                replace hx380_2 := (HB.out.cell (World.block_lt_of_cell? w _ hx380_2)).trans hx380_2
                replace hx380_3 := (HB.out.cell (World.block_lt_of_cell? w _ hx380_3)).trans hx380_3
                replace p380 := eq_true p380
                replace q380 := eq_true q380
                refine start_ (n := 8) (S := fun w' => w'.cell? (ad380.add ((x5_1).toNat * 4)) = some (.string ((rd_T47 l0 x5_1).f0)) ∧ w'.cell? ⟨(ad380.add ((x5_1).toNat * 4)).block, (ad380.add ((x5_1).toNat * 4)).off + 1, none⟩ = some (.int .i64 ((rd_T47 l0 x5_1).f1)) ∧ w'.cell? ⟨(ad380.add ((x5_1).toNat * 4)).block, (ad380.add ((x5_1).toNat * 4)).off + 2, none⟩ = some (.string ((rd_T47 l0 x5_1).f2)) ∧ w'.cell? ⟨(ad380.add ((x5_1).toNat * 4)).block, (ad380.add ((x5_1).toNat * 4)).off + 3, none⟩ = some (.bool ((rd_T47 l0 x5_1).f3))) (ds := []) #[false, false, false, false, false, false, false, false] (by kernel_rfl) rfl rfl ⟨((HB.out.cell (World.block_lt_of_cell? w _ hw380_0)).trans hw380_0), ((HB.out.cell (World.block_lt_of_cell? w _ hw380_1)).trans hw380_1), ((HB.out.cell (World.block_lt_of_cell? w _ hw380_2)).trans hw380_2), ((HB.out.cell (World.block_lt_of_cell? w _ hw380_3)).trans hw380_3)⟩ (fun hHeld => ?_); refine with_tabW laws_heldEntryS.tab4 laws_heldEntryS.bits4 (fun HT_ HW_ => ?_)
                generalize wr.drew = w19 at HB hx380_0 hx380_1 hx380_2 hx380_3 hHeld ⊢
                refine pure_ (i := 0) (N := some 12) (v := ?_) (a' := ?_) #[true, false, false, false, false, false, false, false] rfl rfl (any_of HT_.out (by kernel_rfl)) (fun _ _ _ h => h) (Or.inl ⟨by rfl, ?_⟩) ?_ ?_
                rotate_left
                · intro w'
                  go_simp
                  with_reducible rfl
                rotate_left
                · simp only [Act.put, List.setIfInBounds_toArray, List.set_cons_zero, List.set_cons_succ, i64_w, i32_w]
                  rfl
                refine pure_ (i := 1) (N := some 13) (v := ?_) (a' := ?_) #[true, true, false, false, false, false, false, false] rfl rfl (any_of HT_.out (by kernel_rfl)) (fun _ _ _ h => h) (Or.inl ⟨by rfl, ?_⟩) ?_ ?_
                rotate_left
                · intro w'
                  go_simp
                  with_reducible rfl
                rotate_left
                · simp only [Act.put, List.setIfInBounds_toArray, List.set_cons_zero, List.set_cons_succ, i64_w, i32_w]
                  rfl
                refine pure_ (i := 2) (N := some 14) (v := ?_) (a' := ?_) #[true, true, true, false, false, false, false, false] rfl rfl (any_of HT_.out (by kernel_rfl)) (fun _ _ _ h => h) (Or.inl ⟨by rfl, ?_⟩) ?_ ?_
                rotate_left
                · intro w'
                  go_simp
                  with_reducible rfl
                rotate_left
                · simp only [Act.put, List.setIfInBounds_toArray, List.set_cons_zero, List.set_cons_succ, i64_w, i32_w]
                  rfl
                refine pure_ (i := 3) (N := some 15) (v := ?_) (a' := ?_) #[true, true, true, true, false, false, false, false] rfl rfl (any_of HT_.out (by kernel_rfl)) (fun _ _ _ h => h) (Or.inl ⟨by rfl, ?_⟩) ?_ ?_
                rotate_left
                · intro w'
                  go_simp
                  with_reducible rfl
                rotate_left
                · simp only [Act.put, List.setIfInBounds_toArray, List.set_cons_zero, List.set_cons_succ, i64_w, i32_w]
                  rfl
                refine pure_ (i := 5) (N := some 17) (v := ?_) (a' := ?_) #[true, true, true, true, false, true, false, false] rfl rfl (any_of HT_.out (by kernel_rfl)) (fun _ _ _ h => h) (Or.inl ⟨by rfl, ?_⟩) ?_ ?_
                rotate_left
                · intro w'
                  go_simp
                  with_reducible rfl
                rotate_left
                · simp only [Act.put, List.setIfInBounds_toArray, List.set_cons_zero, List.set_cons_succ, i64_w, i32_w]
                  rfl
                refine take_ (i := 4) (N := some 16) (v := ?_) (a' := ?_) #[true, true, true, true, true, true, false, false] rfl rfl (take_ofW HT_.out HW_.out (by kernel_rfl)) (fun _ _ _ h => h) (Or.inl ⟨by rfl, ?_⟩) hHeld ?_ ?_
                rotate_left
                · rintro w' ⟨s0, s1, s2, s3⟩
                  go_simp
                  with_reducible rfl
                rotate_left
                · simp only [Act.put, List.setIfInBounds_toArray, List.set_cons_zero, List.set_cons_succ, i64_w, i32_w]
                  rfl
                refine one_ (i := 6) (N := some 18) #[true, true, true, true, true, true, true, false] rfl rfl (one_of HT_.out (by kernel_rfl)) (by decide) (fun K hK => ?_)
                refine goes_ Tryd.func51 (by kernel_rfl) rfl #[.int .i64 x1_1] (by rfl) rfl rfl (by (try simp only [List.map_toArray, List.map_cons, List.map_nil]); first | done | rfl | (simp only [List.length_drop, List.length_take]; rfl)) ?_
                with_reducible refine (laws_markText.calls k1 x1_1 t381 _ A5.out).mono ?_
                rintro e w20 ⟨rfl, hb⟩
                refine ⟨_, rfl, ?_⟩
                have n0_ := Aside0.mk (below_step (by repeat (first | (with_reducible first | exact HB.out | apply below_alloc | apply pw_below_drewN | apply below_drew1) | exact HB.out)) hb)
                clear HB
                have HB := n0_
                clear n0_
                (try clear hb)
                (try clear hb2)
                (try clear hk)
                (try clear hi)
                refine hK.out _ _ ⟨((HB.out.cell (World.block_lt_of_cell? w _ hw380_0)).trans hw380_0), ((HB.out.cell (World.block_lt_of_cell? w _ hw380_1)).trans hw380_1), ((HB.out.cell (World.block_lt_of_cell? w _ hw380_2)).trans hw380_2), ((HB.out.cell (World.block_lt_of_cell? w _ hw380_3)).trans hw380_3)⟩ (fun hHeld => ?_)
                clear hK K
                refine norm_ (a' := ?_) ?_ ?_
                rotate_left
                · show Act.put _ (some 18) _ = _
                  simp only [Act.put, List.setIfInBounds_toArray, List.set_cons_zero, List.set_cons_succ, i64_w, i32_w]
                  rfl
                refine pure_ (i := 7) (N := some 19) (v := ?_) (a' := ?_) #[true, true, true, true, true, true, true, true] rfl rfl (any_of HT_.out (by kernel_rfl)) (fun _ _ _ h => h) (Or.inl ⟨by rfl, ?_⟩) ?_ ?_
                rotate_left
                · intro w'
                  go_simp
                  with_reducible rfl
                rotate_left
                · simp only [Act.put, List.setIfInBounds_toArray, List.set_cons_zero, List.set_cons_succ, i64_w, i32_w]
                  rfl
                refine done_ (done_of HT_.out (by kernel_rfl)) ?_
                have p382 : 0 ≤ (x5_1 : Int) := of_decide_eq_true (by first | (with_reducible assumption) | assumption)
                have q382 : x5_1 < (l0.length : Int) := of_decide_eq_true (by first | (with_reducible assumption) | assumption)
                obtain ⟨ad382, e382, hx382_0, hx382_1, hx382_2, hx382_3⟩ := at_T47 HR0.out x5_1 p382 q382
                obtain rfl : ad380 = ad382 := (by injection e382)
                replace hx382_0 := (HB.out.cell (World.block_lt_of_cell? w _ hx382_0)).trans hx382_0
                replace hx382_1 := (HB.out.cell (World.block_lt_of_cell? w _ hx382_1)).trans hx382_1
                replace hx382_2 := (HB.out.cell (World.block_lt_of_cell? w _ hx382_2)).trans hx382_2
                replace hx382_3 := (HB.out.cell (World.block_lt_of_cell? w _ hx382_3)).trans hx382_3
                replace p382 := eq_true p382
                replace q382 := eq_true q382
                try go_wp2
                have n0_ := Aside0.mk (below_drew1 HB.out)
                clear HB
                have HB := n0_
                clear n0_
                have p383 : 0 ≤ (x5_1 : Int) := of_decide_eq_true (by first | (with_reducible assumption) | assumption)
                have q383 : x5_1 < (l0.length : Int) := of_decide_eq_true (by first | (with_reducible assumption) | assumption)
                obtain ⟨ad383, e383, hx383_0, hx383_1, hx383_2, hx383_3⟩ := at_T47 HR0.out x5_1 p383 q383
                have hw383_3 := hx383_3
                have hw383_2 := hx383_2
                have hw383_1 := hx383_1
                have hw383_0 := hx383_0
                obtain rfl : ad380 = ad383 := (by injection e383)
                replace hx383_0 := (HB.out.cell (World.block_lt_of_cell? w _ hx383_0)).trans hx383_0
                replace hx383_1 := (HB.out.cell (World.block_lt_of_cell? w _ hx383_1)).trans hx383_1
                replace hx383_2 := (HB.out.cell (World.block_lt_of_cell? w _ hx383_2)).trans hx383_2
                replace hx383_3 := (HB.out.cell (World.block_lt_of_cell? w _ hx383_3)).trans hx383_3
                replace p383 := eq_true p383
                replace q383 := eq_true q383
                refine start_ (n := 8) (S := fun w' => w'.cell? (ad380.add ((x5_1).toNat * 4)) = some (.string ((rd_T47 l0 x5_1).f0)) ∧ w'.cell? ⟨(ad380.add ((x5_1).toNat * 4)).block, (ad380.add ((x5_1).toNat * 4)).off + 1, none⟩ = some (.int .i64 ((rd_T47 l0 x5_1).f1)) ∧ w'.cell? ⟨(ad380.add ((x5_1).toNat * 4)).block, (ad380.add ((x5_1).toNat * 4)).off + 2, none⟩ = some (.string ((rd_T47 l0 x5_1).f2)) ∧ w'.cell? ⟨(ad380.add ((x5_1).toNat * 4)).block, (ad380.add ((x5_1).toNat * 4)).off + 3, none⟩ = some (.bool ((rd_T47 l0 x5_1).f3))) (ds := []) #[false, false, false, false, false, false, false, false] (by kernel_rfl) rfl rfl ⟨((HB.out.cell (World.block_lt_of_cell? w _ hw383_0)).trans hw383_0), ((HB.out.cell (World.block_lt_of_cell? w _ hw383_1)).trans hw383_1), ((HB.out.cell (World.block_lt_of_cell? w _ hw383_2)).trans hw383_2), ((HB.out.cell (World.block_lt_of_cell? w _ hw383_3)).trans hw383_3)⟩ (fun hHeld => ?_); refine with_tabW laws_heldEntryS.tab10 laws_heldEntryS.bits10 (fun HT_ HW_ => ?_)
                generalize w20.drew = w21 at HB hx383_0 hx383_1 hx383_2 hx383_3 hHeld ⊢
                refine pure_ (i := 0) (N := some 31) (v := ?_) (a' := ?_) #[true, false, false, false, false, false, false, false] rfl rfl (any_of HT_.out (by kernel_rfl)) (fun _ _ _ h => h) (Or.inl ⟨by rfl, ?_⟩) ?_ ?_
                rotate_left
                · intro w'
                  go_simp
                  with_reducible rfl
                rotate_left
                · simp only [Act.put, List.setIfInBounds_toArray, List.set_cons_zero, List.set_cons_succ, i64_w, i32_w]
                  rfl
                refine pure_ (i := 1) (N := some 32) (v := ?_) (a' := ?_) #[true, true, false, false, false, false, false, false] rfl rfl (any_of HT_.out (by kernel_rfl)) (fun _ _ _ h => h) (Or.inl ⟨by rfl, ?_⟩) ?_ ?_
                rotate_left
                · intro w'
                  go_simp
                  with_reducible rfl
                rotate_left
                · simp only [Act.put, List.setIfInBounds_toArray, List.set_cons_zero, List.set_cons_succ, i64_w, i32_w]
                  rfl
                refine pure_ (i := 2) (N := some 33) (v := ?_) (a' := ?_) #[true, true, true, false, false, false, false, false] rfl rfl (any_of HT_.out (by kernel_rfl)) (fun _ _ _ h => h) (Or.inl ⟨by rfl, ?_⟩) ?_ ?_
                rotate_left
                · intro w'
                  go_simp
                  with_reducible rfl
                rotate_left
                · simp only [Act.put, List.setIfInBounds_toArray, List.set_cons_zero, List.set_cons_succ, i64_w, i32_w]
                  rfl
                refine pure_ (i := 3) (N := some 34) (v := ?_) (a' := ?_) #[true, true, true, true, false, false, false, false] rfl rfl (any_of HT_.out (by kernel_rfl)) (fun _ _ _ h => h) (Or.inl ⟨by rfl, ?_⟩) ?_ ?_
                rotate_left
                · intro w'
                  go_simp
                  with_reducible rfl
                rotate_left
                · simp only [Act.put, List.setIfInBounds_toArray, List.set_cons_zero, List.set_cons_succ, i64_w, i32_w]
                  rfl
                refine pure_ (i := 5) (N := some 36) (v := ?_) (a' := ?_) #[true, true, true, true, false, true, false, false] rfl rfl (any_of HT_.out (by kernel_rfl)) (fun _ _ _ h => h) (Or.inl ⟨by rfl, ?_⟩) ?_ ?_
                rotate_left
                · intro w'
                  go_simp
                  with_reducible rfl
                rotate_left
                · simp only [Act.put, List.setIfInBounds_toArray, List.set_cons_zero, List.set_cons_succ, i64_w, i32_w]
                  rfl
                refine take_ (i := 4) (N := some 35) (v := ?_) (a' := ?_) #[true, true, true, true, true, true, false, false] rfl rfl (take_ofW HT_.out HW_.out (by kernel_rfl)) (fun _ _ _ h => h) (Or.inl ⟨by rfl, ?_⟩) hHeld ?_ ?_
                rotate_left
                · rintro w' ⟨s0, s1, s2, s3⟩
                  go_simp
                  with_reducible rfl
                rotate_left
                · simp only [Act.put, List.setIfInBounds_toArray, List.set_cons_zero, List.set_cons_succ, i64_w, i32_w]
                  rfl
                refine one_ (i := 6) (N := some 37) #[true, true, true, true, true, true, true, false] rfl rfl (one_of HT_.out (by kernel_rfl)) (by decide) (fun K hK => ?_)
                refine goes_ Tryd.func51 (by kernel_rfl) rfl #[.int .i64 (wrap64 ((wrap64 (x1_1 + 1)) + 1))] (by rfl) rfl rfl (by (try simp only [List.map_toArray, List.map_cons, List.map_nil]); first | done | rfl | (simp only [List.length_drop, List.length_take]; rfl)) ?_
                with_reducible refine (laws_markText.calls k1 (wrap64 ((wrap64 (x1_1 + 1)) + 1)) t384 _ A8.out).mono ?_
                rintro e w22 ⟨rfl, hb⟩
                refine ⟨_, rfl, ?_⟩
                have n0_ := Aside0.mk (below_step (by repeat (first | (with_reducible first | exact HB.out | apply below_alloc | apply pw_below_drewN | apply below_drew1) | exact HB.out)) hb)
                clear HB
                have HB := n0_
                clear n0_
                (try clear hb)
                (try clear hb2)
                (try clear hk)
                (try clear hi)
                refine hK.out _ _ ⟨((HB.out.cell (World.block_lt_of_cell? w _ hw383_0)).trans hw383_0), ((HB.out.cell (World.block_lt_of_cell? w _ hw383_1)).trans hw383_1), ((HB.out.cell (World.block_lt_of_cell? w _ hw383_2)).trans hw383_2), ((HB.out.cell (World.block_lt_of_cell? w _ hw383_3)).trans hw383_3)⟩ (fun hHeld => ?_)
                clear hK K
                refine norm_ (a' := ?_) ?_ ?_
                rotate_left
                · show Act.put _ (some 37) _ = _
                  simp only [Act.put, List.setIfInBounds_toArray, List.set_cons_zero, List.set_cons_succ, i64_w, i32_w]
                  rfl
                refine pure_ (i := 7) (N := some 38) (v := ?_) (a' := ?_) #[true, true, true, true, true, true, true, true] rfl rfl (any_of HT_.out (by kernel_rfl)) (fun _ _ _ h => h) (Or.inl ⟨by rfl, ?_⟩) ?_ ?_
                rotate_left
                · intro w'
                  go_simp
                  with_reducible rfl
                rotate_left
                · simp only [Act.put, List.setIfInBounds_toArray, List.set_cons_zero, List.set_cons_succ, i64_w, i32_w]
                  rfl
                refine done_ (done_of HT_.out (by kernel_rfl)) ?_
                try go_wp2
                go_ret
                exact ⟨by first | rfl | (simp [errW_none, errW_some] <;> rfl) | (simp [*, errW_none, errW_some] <;> rfl), by repeat (first | (with_reducible first | exact HB.out | apply below_alloc | apply pw_below_drewN | apply below_drew1) | exact HB.out)⟩
            · rw [if_neg c7] at H
              have c7b0 : (((rd_T47 l0 x5_1).f1) == (wrap64 (x1_1 + 1))) = false := beq_eq_false_iff_ne.mpr c7
              have c7b1 : (((rd_T47 l0 x5_1).f1) != (wrap64 (x1_1 + 1))) = true := bne_iff_ne.mpr c7
              obtain rfl := Option.some.inj H
              try go_wp2
              have n0_ := Aside0.mk (below_drew1 HB.out)
              clear HB
              have HB := n0_
              clear n0_
              have p380 : 0 ≤ (x5_1 : Int) := of_decide_eq_true (by first | (with_reducible assumption) | assumption)
              have q380 : x5_1 < (l0.length : Int) := of_decide_eq_true (by first | (with_reducible assumption) | assumption)
              obtain ⟨ad380, e380, hx380_0, hx380_1, hx380_2, hx380_3⟩ := at_T47 HR0.out x5_1 p380 q380
              have hw380_3 := hx380_3
              have hw380_2 := hx380_2
              have hw380_1 := hx380_1
              have hw380_0 := hx380_0
              cases e380
              replace hx380_0 := (HB.out.cell (World.block_lt_of_cell? w _ hx380_0)).trans hx380_0
              replace hx380_1 := (HB.out.cell (World.block_lt_of_cell? w _ hx380_1)).trans hx380_1
              replace hx380_2 := (HB.out.cell (World.block_lt_of_cell? w _ hx380_2)).trans hx380_2
              replace hx380_3 := (HB.out.cell (World.block_lt_of_cell? w _ hx380_3)).trans hx380_3
              replace p380 := eq_true p380
              replace q380 := eq_true q380
              refine start_ (n := 8) (S := fun w' => w'.cell? (ad380.add ((x5_1).toNat * 4)) = some (.string ((rd_T47 l0 x5_1).f0)) ∧ w'.cell? ⟨(ad380.add ((x5_1).toNat * 4)).block, (ad380.add ((x5_1).toNat * 4)).off + 1, none⟩ = some (.int .i64 ((rd_T47 l0 x5_1).f1)) ∧ w'.cell? ⟨(ad380.add ((x5_1).toNat * 4)).block, (ad380.add ((x5_1).toNat * 4)).off + 2, none⟩ = some (.string ((rd_T47 l0 x5_1).f2)) ∧ w'.cell? ⟨(ad380.add ((x5_1).toNat * 4)).block, (ad380.add ((x5_1).toNat * 4)).off + 3, none⟩ = some (.bool ((rd_T47 l0 x5_1).f3))) (ds := []) #[false, false, false, false, false, false, false, false] (by kernel_rfl) rfl rfl ⟨((HB.out.cell (World.block_lt_of_cell? w _ hw380_0)).trans hw380_0), ((HB.out.cell (World.block_lt_of_cell? w _ hw380_1)).trans hw380_1), ((HB.out.cell (World.block_lt_of_cell? w _ hw380_2)).trans hw380_2), ((HB.out.cell (World.block_lt_of_cell? w _ hw380_3)).trans hw380_3)⟩ (fun hHeld => ?_); refine with_tabW laws_heldEntryS.tab4 laws_heldEntryS.bits4 (fun HT_ HW_ => ?_)
              generalize wr.drew = w23 at HB hx380_0 hx380_1 hx380_2 hx380_3 hHeld ⊢
              refine pure_ (i := 0) (N := some 12) (v := ?_) (a' := ?_) #[true, false, false, false, false, false, false, false] rfl rfl (any_of HT_.out (by kernel_rfl)) (fun _ _ _ h => h) (Or.inl ⟨by rfl, ?_⟩) ?_ ?_
              rotate_left
              · intro w'
                go_simp
                with_reducible rfl
              rotate_left
              · simp only [Act.put, List.setIfInBounds_toArray, List.set_cons_zero, List.set_cons_succ, i64_w, i32_w]
                rfl
              refine pure_ (i := 1) (N := some 13) (v := ?_) (a' := ?_) #[true, true, false, false, false, false, false, false] rfl rfl (any_of HT_.out (by kernel_rfl)) (fun _ _ _ h => h) (Or.inl ⟨by rfl, ?_⟩) ?_ ?_
              rotate_left
              · intro w'
                go_simp
                with_reducible rfl
              rotate_left
              · simp only [Act.put, List.setIfInBounds_toArray, List.set_cons_zero, List.set_cons_succ, i64_w, i32_w]
                rfl
              refine pure_ (i := 2) (N := some 14) (v := ?_) (a' := ?_) #[true, true, true, false, false, false, false, false] rfl rfl (any_of HT_.out (by kernel_rfl)) (fun _ _ _ h => h) (Or.inl ⟨by rfl, ?_⟩) ?_ ?_
              rotate_left
              · intro w'
                go_simp
                with_reducible rfl
              rotate_left
              · simp only [Act.put, List.setIfInBounds_toArray, List.set_cons_zero, List.set_cons_succ, i64_w, i32_w]
                rfl
              refine pure_ (i := 3) (N := some 15) (v := ?_) (a' := ?_) #[true, true, true, true, false, false, false, false] rfl rfl (any_of HT_.out (by kernel_rfl)) (fun _ _ _ h => h) (Or.inl ⟨by rfl, ?_⟩) ?_ ?_
              rotate_left
              · intro w'
                go_simp
                with_reducible rfl
              rotate_left
              · simp only [Act.put, List.setIfInBounds_toArray, List.set_cons_zero, List.set_cons_succ, i64_w, i32_w]
                rfl
              refine pure_ (i := 5) (N := some 17) (v := ?_) (a' := ?_) #[true, true, true, true, false, true, false, false] rfl rfl (any_of HT_.out (by kernel_rfl)) (fun _ _ _ h => h) (Or.inl ⟨by rfl, ?_⟩) ?_ ?_
              rotate_left
              · intro w'
                go_simp
                with_reducible rfl
              rotate_left
              · simp only [Act.put, List.setIfInBounds_toArray, List.set_cons_zero, List.set_cons_succ, i64_w, i32_w]
                rfl
              refine take_ (i := 4) (N := some 16) (v := ?_) (a' := ?_) #[true, true, true, true, true, true, false, false] rfl rfl (take_ofW HT_.out HW_.out (by kernel_rfl)) (fun _ _ _ h => h) (Or.inl ⟨by rfl, ?_⟩) hHeld ?_ ?_
              rotate_left
              · rintro w' ⟨s0, s1, s2, s3⟩
                go_simp
                with_reducible rfl
              rotate_left
              · simp only [Act.put, List.setIfInBounds_toArray, List.set_cons_zero, List.set_cons_succ, i64_w, i32_w]
                rfl
              refine one_ (i := 6) (N := some 18) #[true, true, true, true, true, true, true, false] rfl rfl (one_of HT_.out (by kernel_rfl)) (by decide) (fun K hK => ?_)
              refine goes_ Tryd.func51 (by kernel_rfl) rfl #[.int .i64 x1_1] (by rfl) rfl rfl (by (try simp only [List.map_toArray, List.map_cons, List.map_nil]); first | done | rfl | (simp only [List.length_drop, List.length_take]; rfl)) ?_
              with_reducible refine (laws_markText.calls k1 x1_1 t381 _ A5.out).mono ?_
              rintro e w24 ⟨rfl, hb⟩
              refine ⟨_, rfl, ?_⟩
              have n0_ := Aside0.mk (below_step (by repeat (first | (with_reducible first | exact HB.out | apply below_alloc | apply pw_below_drewN | apply below_drew1) | exact HB.out)) hb)
              clear HB
              have HB := n0_
              clear n0_
              (try clear hb)
              (try clear hb2)
              (try clear hk)
              (try clear hi)
              refine hK.out _ _ ⟨((HB.out.cell (World.block_lt_of_cell? w _ hw380_0)).trans hw380_0), ((HB.out.cell (World.block_lt_of_cell? w _ hw380_1)).trans hw380_1), ((HB.out.cell (World.block_lt_of_cell? w _ hw380_2)).trans hw380_2), ((HB.out.cell (World.block_lt_of_cell? w _ hw380_3)).trans hw380_3)⟩ (fun hHeld => ?_)
              clear hK K
              refine norm_ (a' := ?_) ?_ ?_
              rotate_left
              · show Act.put _ (some 18) _ = _
                simp only [Act.put, List.setIfInBounds_toArray, List.set_cons_zero, List.set_cons_succ, i64_w, i32_w]
                rfl
              refine pure_ (i := 7) (N := some 19) (v := ?_) (a' := ?_) #[true, true, true, true, true, true, true, true] rfl rfl (any_of HT_.out (by kernel_rfl)) (fun _ _ _ h => h) (Or.inl ⟨by rfl, ?_⟩) ?_ ?_
              rotate_left
              · intro w'
                go_simp
                with_reducible rfl
              rotate_left
              · simp only [Act.put, List.setIfInBounds_toArray, List.set_cons_zero, List.set_cons_succ, i64_w, i32_w]
                rfl
              refine done_ (done_of HT_.out (by kernel_rfl)) ?_
              have p382 : 0 ≤ (x5_1 : Int) := of_decide_eq_true (by first | (with_reducible assumption) | assumption)
              have q382 : x5_1 < (l0.length : Int) := of_decide_eq_true (by first | (with_reducible assumption) | assumption)
              obtain ⟨ad382, e382, hx382_0, hx382_1, hx382_2, hx382_3⟩ := at_T47 HR0.out x5_1 p382 q382
              obtain rfl : ad380 = ad382 := (by injection e382)
              replace hx382_0 := (HB.out.cell (World.block_lt_of_cell? w _ hx382_0)).trans hx382_0
              replace hx382_1 := (HB.out.cell (World.block_lt_of_cell? w _ hx382_1)).trans hx382_1
              replace hx382_2 := (HB.out.cell (World.block_lt_of_cell? w _ hx382_2)).trans hx382_2
              replace hx382_3 := (HB.out.cell (World.block_lt_of_cell? w _ hx382_3)).trans hx382_3
              replace p382 := eq_true p382
              replace q382 := eq_true q382
              try go_wp2
              go_ret
              exact ⟨by first | rfl | (simp [errW_none, errW_some] <;> rfl) | (simp [*, errW_none, errW_some] <;> rfl), by repeat (first | (with_reducible first | exact HB.out | apply below_alloc | apply pw_below_drewN | apply below_drew1) | exact HB.out)⟩
          · rw [if_neg c6] at H
            have c6b0 : (((rd_T47 l0 x5_1).f0).toList == t381.toList) = false := beq_eq_false_iff_ne.mpr c6
            have c6b1 : (((rd_T47 l0 x5_1).f0).toList != t381.toList) = true := bne_iff_ne.mpr c6
            obtain rfl := Option.some.inj H
            try go_wp2
            have n0_ := Aside0.mk (below_drew1 HB.out)
            clear HB
            have HB := n0_
            clear n0_
            have p380 : 0 ≤ (x5_1 : Int) := of_decide_eq_true (by first | (with_reducible assumption) | assumption)
            have q380 : x5_1 < (l0.length : Int) := of_decide_eq_true (by first | (with_reducible assumption) | assumption)
            obtain ⟨ad380, e380, hx380_0, hx380_1, hx380_2, hx380_3⟩ := at_T47 HR0.out x5_1 p380 q380
            have hw380_3 := hx380_3
            have hw380_2 := hx380_2
            have hw380_1 := hx380_1
            have hw380_0 := hx380_0
            cases e380
            replace hx380_0 := (HB.out.cell (World.block_lt_of_cell? w _ hx380_0)).trans hx380_0
            replace hx380_1 := (HB.out.cell (World.block_lt_of_cell? w _ hx380_1)).trans hx380_1
            replace hx380_2 := (HB.out.cell (World.block_lt_of_cell? w _ hx380_2)).trans hx380_2
            replace hx380_3 := (HB.out.cell (World.block_lt_of_cell? w _ hx380_3)).trans hx380_3
            replace p380 := eq_true p380
            replace q380 := eq_true q380
            refine start_ (n := 8) (S := fun w' => w'.cell? (ad380.add ((x5_1).toNat * 4)) = some (.string ((rd_T47 l0 x5_1).f0)) ∧ w'.cell? ⟨(ad380.add ((x5_1).toNat * 4)).block, (ad380.add ((x5_1).toNat * 4)).off + 1, none⟩ = some (.int .i64 ((rd_T47 l0 x5_1).f1)) ∧ w'.cell? ⟨(ad380.add ((x5_1).toNat * 4)).block, (ad380.add ((x5_1).toNat * 4)).off + 2, none⟩ = some (.string ((rd_T47 l0 x5_1).f2)) ∧ w'.cell? ⟨(ad380.add ((x5_1).toNat * 4)).block, (ad380.add ((x5_1).toNat * 4)).off + 3, none⟩ = some (.bool ((rd_T47 l0 x5_1).f3))) (ds := []) #[false, false, false, false, false, false, false, false] (by kernel_rfl) rfl rfl ⟨((HB.out.cell (World.block_lt_of_cell? w _ hw380_0)).trans hw380_0), ((HB.out.cell (World.block_lt_of_cell? w _ hw380_1)).trans hw380_1), ((HB.out.cell (World.block_lt_of_cell? w _ hw380_2)).trans hw380_2), ((HB.out.cell (World.block_lt_of_cell? w _ hw380_3)).trans hw380_3)⟩ (fun hHeld => ?_); refine with_tabW laws_heldEntryS.tab4 laws_heldEntryS.bits4 (fun HT_ HW_ => ?_)
            generalize wr.drew = w25 at HB hx380_0 hx380_1 hx380_2 hx380_3 hHeld ⊢
            refine pure_ (i := 0) (N := some 12) (v := ?_) (a' := ?_) #[true, false, false, false, false, false, false, false] rfl rfl (any_of HT_.out (by kernel_rfl)) (fun _ _ _ h => h) (Or.inl ⟨by rfl, ?_⟩) ?_ ?_
            rotate_left
            · intro w'
              go_simp
              with_reducible rfl
            rotate_left
            · simp only [Act.put, List.setIfInBounds_toArray, List.set_cons_zero, List.set_cons_succ, i64_w, i32_w]
              rfl
            refine pure_ (i := 1) (N := some 13) (v := ?_) (a' := ?_) #[true, true, false, false, false, false, false, false] rfl rfl (any_of HT_.out (by kernel_rfl)) (fun _ _ _ h => h) (Or.inl ⟨by rfl, ?_⟩) ?_ ?_
            rotate_left
            · intro w'
              go_simp
              with_reducible rfl
            rotate_left
            · simp only [Act.put, List.setIfInBounds_toArray, List.set_cons_zero, List.set_cons_succ, i64_w, i32_w]
              rfl
            refine pure_ (i := 2) (N := some 14) (v := ?_) (a' := ?_) #[true, true, true, false, false, false, false, false] rfl rfl (any_of HT_.out (by kernel_rfl)) (fun _ _ _ h => h) (Or.inl ⟨by rfl, ?_⟩) ?_ ?_
            rotate_left
            · intro w'
              go_simp
              with_reducible rfl
            rotate_left
            · simp only [Act.put, List.setIfInBounds_toArray, List.set_cons_zero, List.set_cons_succ, i64_w, i32_w]
              rfl
            refine pure_ (i := 3) (N := some 15) (v := ?_) (a' := ?_) #[true, true, true, true, false, false, false, false] rfl rfl (any_of HT_.out (by kernel_rfl)) (fun _ _ _ h => h) (Or.inl ⟨by rfl, ?_⟩) ?_ ?_
            rotate_left
            · intro w'
              go_simp
              with_reducible rfl
            rotate_left
            · simp only [Act.put, List.setIfInBounds_toArray, List.set_cons_zero, List.set_cons_succ, i64_w, i32_w]
              rfl
            refine pure_ (i := 5) (N := some 17) (v := ?_) (a' := ?_) #[true, true, true, true, false, true, false, false] rfl rfl (any_of HT_.out (by kernel_rfl)) (fun _ _ _ h => h) (Or.inl ⟨by rfl, ?_⟩) ?_ ?_
            rotate_left
            · intro w'
              go_simp
              with_reducible rfl
            rotate_left
            · simp only [Act.put, List.setIfInBounds_toArray, List.set_cons_zero, List.set_cons_succ, i64_w, i32_w]
              rfl
            refine take_ (i := 4) (N := some 16) (v := ?_) (a' := ?_) #[true, true, true, true, true, true, false, false] rfl rfl (take_ofW HT_.out HW_.out (by kernel_rfl)) (fun _ _ _ h => h) (Or.inl ⟨by rfl, ?_⟩) hHeld ?_ ?_
            rotate_left
            · rintro w' ⟨s0, s1, s2, s3⟩
              go_simp
              with_reducible rfl
            rotate_left
            · simp only [Act.put, List.setIfInBounds_toArray, List.set_cons_zero, List.set_cons_succ, i64_w, i32_w]
              rfl
            refine one_ (i := 6) (N := some 18) #[true, true, true, true, true, true, true, false] rfl rfl (one_of HT_.out (by kernel_rfl)) (by decide) (fun K hK => ?_)
            refine goes_ Tryd.func51 (by kernel_rfl) rfl #[.int .i64 x1_1] (by rfl) rfl rfl (by (try simp only [List.map_toArray, List.map_cons, List.map_nil]); first | done | rfl | (simp only [List.length_drop, List.length_take]; rfl)) ?_
            with_reducible refine (laws_markText.calls k1 x1_1 t381 _ A5.out).mono ?_
            rintro e w26 ⟨rfl, hb⟩
            refine ⟨_, rfl, ?_⟩
            have n0_ := Aside0.mk (below_step (by repeat (first | (with_reducible first | exact HB.out | apply below_alloc | apply pw_below_drewN | apply below_drew1) | exact HB.out)) hb)
            clear HB
            have HB := n0_
            clear n0_
            (try clear hb)
            (try clear hb2)
            (try clear hk)
            (try clear hi)
            refine hK.out _ _ ⟨((HB.out.cell (World.block_lt_of_cell? w _ hw380_0)).trans hw380_0), ((HB.out.cell (World.block_lt_of_cell? w _ hw380_1)).trans hw380_1), ((HB.out.cell (World.block_lt_of_cell? w _ hw380_2)).trans hw380_2), ((HB.out.cell (World.block_lt_of_cell? w _ hw380_3)).trans hw380_3)⟩ (fun hHeld => ?_)
            clear hK K
            refine norm_ (a' := ?_) ?_ ?_
            rotate_left
            · show Act.put _ (some 18) _ = _
              simp only [Act.put, List.setIfInBounds_toArray, List.set_cons_zero, List.set_cons_succ, i64_w, i32_w]
              rfl
            refine pure_ (i := 7) (N := some 19) (v := ?_) (a' := ?_) #[true, true, true, true, true, true, true, true] rfl rfl (any_of HT_.out (by kernel_rfl)) (fun _ _ _ h => h) (Or.inl ⟨by rfl, ?_⟩) ?_ ?_
            rotate_left
            · intro w'
              go_simp
              with_reducible rfl
            rotate_left
            · simp only [Act.put, List.setIfInBounds_toArray, List.set_cons_zero, List.set_cons_succ, i64_w, i32_w]
              rfl
            refine done_ (done_of HT_.out (by kernel_rfl)) ?_
            try go_wp2
            go_ret
            exact ⟨by first | rfl | (simp [errW_none, errW_some] <;> rfl) | (simp [*, errW_none, errW_some] <;> rfl), by repeat (first | (with_reducible first | exact HB.out | apply below_alloc | apply pw_below_drewN | apply below_drew1) | exact HB.out)⟩
        · rw [if_neg c4] at H
          exact absurd H (by simp)
      · rw [if_neg c3] at H
        have c3b0 : decide (x5_1 < (l0.length : Int)) = false := decide_eq_false c3
        clear c3
        obtain rfl := Option.some.inj H
        go_wp2
        go_ret
        exact ⟨by first | rfl | (simp [errW_none, errW_some] <;> rfl) | (simp [*, errW_none, errW_some] <;> rfl), by repeat (first | (with_reducible first | exact HB.out | apply below_alloc | apply pw_below_drewN | apply below_drew1) | exact HB.out)⟩
end Go.Proofs.YtgghefjkkidaoaaDoor.P
end

section
namespace Go.Proofs.YtgghefjkkidaoaaDoor.P
open Go.RowKit Go.Proofs.YtgghefjkkidaoaaDoorW.PrintWords Go.Proofs.YtgghefjkkidaoaaDoorW.PrintLast Go.Proofs.YtgghefjkkidaoaaDoorW.PrintMore Go.Proofs.YtgghefjkkidaoaaDoorM
attribute [local go_sem] max2_int min2_int max_two min_two max_three min_three max_four min_four   -- for this text's walks alone
set_option linter.unusedVariables false
set_option linter.unusedSimpArgs false
def spec_l10Copy.f (l0 : List (S47)) : Option ((List (S47))) := (some (([] : List (S47)) : List (S47))).bind fun y418 => (if y418.length + l0.length < 2932031007402 then (some (y418 ++ l0)) else (none))
set_option maxHeartbeats 8000000 in
set_option maxRecDepth 100000 in
theorem spec_l10Copy.calls (A0 : Option Addr) (c0 : Nat) (l0 : List (S47)) (r : List (S47)) (w : World) (hr0 : Kd.C k47 w A0 l0.length l0) (hc0 : l0.length ≤ c0) (h : spec_l10Copy.f l0 = some r) :
    Calls Tryd.prog 57 #[.slice A0 l0.length c0] w fun e w' => ∃ v0_ : Value, e = .returned (v0_) ∧ Kd.R k47 47 w' w.heap.size (fun _ => True) v0_ r ∧ Below w.heap.size w w' := by
  have HR0 := Aside0.mk hr0
  have HC0 := Aside0.mk hc0
  clear hr0 hc0
  have HB := Aside0.mk (Below.refl w.heap.size w)
  have H : ((some (([] : List (S47)) : List (S47))).bind fun y418 => (if y418.length + l0.length < 2932031007402 then (some (y418 ++ l0)) else (none))) = some r := h
  clear h
  obtain ⟨y418, hy418⟩ : ∃ y_ : List (S47), y_ = (([] : List (S47))) := ⟨_, rfl⟩
  replace H : (if y418.length + l0.length < 2932031007402 then (some (y418 ++ l0)) else (none)) = some r := by first | (rw [hy418]; with_reducible exact H) | (have H2_ := (Option.bind_some _ _).symm.trans H; rw [hy418]; with_reducible exact H2_) | (have H2_ := (Option.bind_some _ _).symm.trans H; with_reducible exact H2_) | with_reducible exact H | (rw [hy418]; exact H) | exact H
  have Ny418 := Aside0.mk hy418
  clear hy418
  by_cases c2 : y418.length + l0.length < 2932031007402
  · rw [if_pos c2] at H
    have LMc2 := Aside0.mk c2
    clear c2
    obtain ⟨y421, hy421⟩ : ∃ y_ : List (S47), y_ = (y418 ++ l0) := ⟨_, rfl⟩
    replace H : (some y421) = some r := by first | (rw [hy421]; with_reducible exact H) | (have H2_ := (Option.bind_some _ _).symm.trans H; rw [hy421]; with_reducible exact H2_) | (have H2_ := (Option.bind_some _ _).symm.trans H; with_reducible exact H2_) | with_reducible exact H | (rw [hy421]; exact H) | exact H
    have Ny421 := Aside0.mk hy421
    clear hy421
    obtain rfl := Option.some.inj H
    go_enter Tryd.func57, Tryd.ntmps57
    go_wp2_with (first | ((with_reducible refine gate_dst (N := 3) rfl ?_); refine Kd.R_lit k47 _ 47 ?hg (N := 3) ?hd (xs := ([] : List (S47))) (inner := []) (ok := fun _ => True) (okp := fun _ => True) ?hr ?hp (fun _ hk => hk) trivial (Below.refl _ _) (Nat.le_refl _) (by simp) ?_; (case hd => rfl); (case hg => rfl); (case hr => first | (go_simp; done) | (go_simp; rfl)); (case hp => exact (Reps.none _ _)); intro v419 w3 ho4 hb hg_ hnew_; clear hg_ hnew_; (first | rw [← Ny418.out] at ho4 | (simp only [Int.reduceToNat] at ho4; rw [← Ny418.out] at ho4)); have n0_ := Aside0.mk (Kd.R_lower ho4 (below_size (by repeat (first | (with_reducible first | exact HB.out | apply below_alloc | apply pw_below_drewN | apply below_drew1) | exact HB.out)))); have n1_ := Aside0.mk (below_step (by repeat (first | (with_reducible first | exact HB.out | apply below_alloc | apply pw_below_drewN | apply below_drew1) | exact HB.out)) hb); clear HB; have HO420 := n0_; have HB := n1_; clear n0_ n1_; clear hb ho4) | ((with_reducible refine gate_builtin (b := .append) (xs := #[.tmp 3, .tmp 4]) rfl ?_); at_builtin; refine Kd.R_append_rows k47 (w0 := w) w.heap.size rfl (.tmp 3) (.tmp 4) 25 47 (.agg #[(.string ⟨#[]⟩), (.int .i64 0), (.string ⟨#[]⟩), (.bool false)]) 48 rfl Tryd.underlying25 info47 rfl (by decide) (by omega) v419 y418 l0 _ _ _ (fun _ => True) (fun _ => False) rfl rfl ?aO ?aR (fun _ _ h => h) (fun _ h => h.elim) ?aF ?aB ?aS ?aL ?_; (case aR => repeat (first | exact (Kd.C_below HR0.out HB.out) | (with_reducible refine Kd.C_alloc ?_ _) | (with_reducible refine Kd.C_drewN ?_ _) | (with_reducible refine Kd.C_drew ?_))); (case aB => exact (by repeat (first | (with_reducible first | exact HB.out | apply below_alloc | apply pw_below_drewN | apply below_drew1) | exact HB.out))); (case aF => exact (fun _ _ => trivial)); (case aO => exact (by (with_reducible repeat (first | apply Kd.R_alloc | apply Kd.R_drewN | apply Kd.R_drew)); exact HO420.out)); (case aS => exact (below_size (by repeat (first | (with_reducible first | exact HB.out | apply below_alloc | apply pw_below_drewN | apply below_drew1) | exact HB.out)))); (case aL => have := LMc2.out; omega); intro v422 w5 ho hb hg hat; rw [← Ny421.out] at ho; have n0_ := Aside0.mk (hb); have n1_ := Aside0.mk (ho); clear HB; clear HO420; have HB := n0_; have HO423 := n1_; clear n0_ n1_; clear ho hb hg hat))
    go_ret
    exact ⟨_, by first | rfl | (simp [errW_none, errW_some] <;> rfl) | (simp [*, errW_none, errW_some] <;> rfl), by (with_reducible repeat (first | apply Kd.R_alloc | apply Kd.R_drewN | apply Kd.R_drew)); exact HO423.out, by repeat (first | (with_reducible first | exact HB.out | apply below_alloc | apply pw_below_drewN | apply below_drew1) | exact HB.out)⟩
  · rw [if_neg c2] at H
    exact absurd H (by simp)
end Go.Proofs.YtgghefjkkidaoaaDoor.P
end

section
namespace Go.Proofs.YtgghefjkkidaoaaDoor.P
open Go.RowKit Go.Proofs.YtgghefjkkidaoaaDoorW.PrintWords Go.Proofs.YtgghefjkkidaoaaDoorW.PrintLast Go.Proofs.YtgghefjkkidaoaaDoorW.PrintMore Go.Proofs.YtgghefjkkidaoaaDoorM
attribute [local go_sem] max2_int min2_int max_two min_two max_three min_three max_four min_four   -- for this text's walks alone
set_option linter.unusedVariables false
set_option linter.unusedSimpArgs false
def spec_l1Index.l0 : Nat → Int → Int → Option (Int)
  | 0, _, _ => none
  | k + 1, x0, x3 => if x3 < 32 then (if 0 ≤ x3 then (if (bt (⟨#[48, 49, 50, 51, 52, 53, 54, 55, 56, 57, 97, 98, 99, 100, 102, 103, 104, 105, 106, 107, 108, 109, 110, 112, 113, 114, 115, 118, 119, 120, 121, 122]⟩ : ByteArray) x3) = x0 then (some x3) else (spec_l1Index.l0 k x0 (wrap64 (x3 + 1)))) else (none)) else (some (-1))
def spec_l1Index.f (k : Nat) (a0 : Int) : Option (Int) := spec_l1Index.l0 k a0 0
theorem spec_l1Index.mono_l : ∀ k, (∀ y0 y1, LeO (spec_l1Index.l0 k y0 y1) (spec_l1Index.l0 (k + 1) y0 y1))
  | 0 => fun _ _ r h => by simp [spec_l1Index.l0] at h
  | k + 1 => by
    have ih0 := spec_l1Index.mono_l k
    · intro y0 y1
      unfold spec_l1Index.l0
      repeat' first
      | (with_reducible exact ih0 _ _)
      | (with_reducible exact LeO.refl _)
      | (with_reducible exact LeO.none _)
      | (with_reducible refine LeO.ite ?_ ?_)
      | (with_reducible refine LeO.bind ?_ (fun _ => ?_))
      | exact ih0 _ _
      | exact LeO.none _
      | refine LeO.ite ?_ ?_
      | refine LeO.bind ?_ (fun _ => ?_)
theorem spec_l1Index.mono : ∀ a0 k, LeO (spec_l1Index.f k a0) (spec_l1Index.f (k + 1) a0) := by
  intro a0 k
  have ih0 := spec_l1Index.mono_l k
  unfold spec_l1Index.f
  repeat' first
      | (with_reducible exact ih0 _ _)
      | (with_reducible exact LeO.refl _)
      | (with_reducible exact LeO.none _)
      | (with_reducible refine LeO.ite ?_ ?_)
      | (with_reducible refine LeO.bind ?_ (fun _ => ?_))
      | exact ih0 _ _
      | exact LeO.none _
      | refine LeO.ite ?_ ?_
      | refine LeO.bind ?_ (fun _ => ?_)
set_option maxHeartbeats 8000000 in
set_option maxRecDepth 100000 in
theorem spec_l1Index.calls (k : Nat) (a0 : Int) (r : Int) (w : World) (h : spec_l1Index.f k a0 = some r) :
    Calls Tryd.prog 105 #[.int .u8 a0] w fun e w' => e = .returned (.int .i64 r) ∧ Drawn0 w w' := by
  have H : (spec_l1Index.l0 k a0 0) = some r := h
  clear h
  have H' := Aside0.mk H
  clear H
  go_enter Tryd.func105, Tryd.ntmps105
  go_wp2
  go_loopg [3] k (fun kq v3 w' => ∃ (x3_1 : Int), v3 = .int .i64 x3_1 ∧ Aside0 (spec_l1Index.l0 kq a0 x3_1 = some r) ∧ Aside0 (kq ≤ k) ∧ Drawn0 w w')
  case atStart => exact ⟨(0), (by first | rfl | (simp; done) | (simp [*]; done)), H', ⟨Nat.le_refl _⟩, by repeat (first | exact Drawn0.refl _ | apply Drawn0.step)⟩
  case round =>
    clear H'
    try clear c1
    obtain ⟨x3_1, rfl, HA, HK1, ⟨m1, rfl⟩⟩ := hrel
    cases gk with
    | zero => exact absurd HA.out (by simp [spec_l1Index.l0])
    | succ k1 =>
      have H := HA.out
      clear HA
      simp only [spec_l1Index.l0] at H
      by_cases c2 : x3_1 < 32
      · rw [if_pos c2] at H
        have c2b0 : decide (x3_1 < 32) = true := decide_eq_true c2
        clear c2
        by_cases c3 : 0 ≤ x3_1
        · rw [if_pos c3] at H
          have c3b0 : decide (0 ≤ x3_1) = true := decide_eq_true c3
          clear c3
          by_cases c5 : (bt (⟨#[48, 49, 50, 51, 52, 53, 54, 55, 56, 57, 97, 98, 99, 100, 102, 103, 104, 105, 106, 107, 108, 109, 110, 112, 113, 114, 115, 118, 119, 120, 121, 122]⟩ : ByteArray) x3_1) = a0
          · rw [if_pos c5] at H
            have c5b0 : ((bt (⟨#[48, 49, 50, 51, 52, 53, 54, 55, 56, 57, 97, 98, 99, 100, 102, 103, 104, 105, 106, 107, 108, 109, 110, 112, 113, 114, 115, 118, 119, 120, 121, 122]⟩ : ByteArray) x3_1) == a0) = true := beq_iff_eq.mpr c5
            have c5b1 : ((bt (⟨#[48, 49, 50, 51, 52, 53, 54, 55, 56, 57, 97, 98, 99, 100, 102, 103, 104, 105, 106, 107, 108, 109, 110, 112, 113, 114, 115, 118, 119, 120, 121, 122]⟩ : ByteArray) x3_1) != a0) = false := bne_eq_false_iff_eq.mpr c5
            clear c5
            obtain rfl := Option.some.inj H
            have p4 : 0 ≤ (x3_1 : Int) := of_decide_eq_true (by first | (with_reducible assumption) | assumption)
            have q4 : x3_1 < (32 : Int) := of_decide_eq_true (by first | (with_reducible assumption) | assumption)
            have hx4 := bt_at (⟨#[48, 49, 50, 51, 52, 53, 54, 55, 56, 57, 97, 98, 99, 100, 102, 103, 104, 105, 106, 107, 108, 109, 110, 112, 113, 114, 115, 118, 119, 120, 121, 122]⟩ : ByteArray) x3_1
            replace p4 := eq_true p4
            replace q4 := eq_true q4
            go_wp2
            go_ret
            exact ⟨by first | rfl | (simp; done) | (simp [*]; done), by repeat (first | exact Drawn0.refl _ | apply Drawn0.step)⟩
          · rw [if_neg c5] at H
            have c5b0 : ((bt (⟨#[48, 49, 50, 51, 52, 53, 54, 55, 56, 57, 97, 98, 99, 100, 102, 103, 104, 105, 106, 107, 108, 109, 110, 112, 113, 114, 115, 118, 119, 120, 121, 122]⟩ : ByteArray) x3_1) == a0) = false := beq_eq_false_iff_ne.mpr c5
            have c5b1 : ((bt (⟨#[48, 49, 50, 51, 52, 53, 54, 55, 56, 57, 97, 98, 99, 100, 102, 103, 104, 105, 106, 107, 108, 109, 110, 112, 113, 114, 115, 118, 119, 120, 121, 122]⟩ : ByteArray) x3_1) != a0) = true := bne_iff_ne.mpr c5
            have H' := Aside0.mk H
            clear H
            have p4 : 0 ≤ (x3_1 : Int) := of_decide_eq_true (by first | (with_reducible assumption) | assumption)
            have q4 : x3_1 < (32 : Int) := of_decide_eq_true (by first | (with_reducible assumption) | assumption)
            have hx4 := bt_at (⟨#[48, 49, 50, 51, 52, 53, 54, 55, 56, 57, 97, 98, 99, 100, 102, 103, 104, 105, 106, 107, 108, 109, 110, 112, 113, 114, 115, 118, 119, 120, 121, 122]⟩ : ByteArray) x3_1
            replace p4 := eq_true p4
            replace q4 := eq_true q4
            go_wp2
            go_roundg k1
            case measure => have := HK1.out; omega
            case rel => exact ⟨(wrap64 (x3_1 + 1)), (by first | rfl | (simp; done) | (simp [*]; done)), H', ⟨by have := HK1.out; omega⟩, by repeat (first | exact Drawn0.refl _ | apply Drawn0.step)⟩
        · rw [if_neg c3] at H
          exact absurd H (by simp)
      · rw [if_neg c2] at H
        have c2b0 : decide (x3_1 < 32) = false := decide_eq_false c2
        clear c2
        obtain rfl := Option.some.inj H
        go_wp2
        go_ret
        exact ⟨by first | rfl | (simp; done) | (simp [*]; done), by repeat (first | exact Drawn0.refl _ | apply Drawn0.step)⟩
def spec_ReadWord32.l0 : Nat → ByteArray → Int → Int → Option (Int × Bool)
  | 0, _, _, _ => none
  | k + 1, x0, x4, x5 => if x5 < 13 then (if 0 ≤ x5 then (if x5 < (x0.size : Int) then ((spec_l1Index.f k (bt x0 x5)).bind fun t507 => (if t507 < 0 then (some (0, false)) else (if x5 = 0 then (if t507 > 15 then (some (0, false)) else (spec_ReadWord32.l0 k x0 (IntKind.u64.wrap ((IntKind.u64.wrap (x4 * 32)) + (IntKind.u64.wrap (t507)))) (wrap64 (x5 + 1)))) else (spec_ReadWord32.l0 k x0 (IntKind.u64.wrap ((IntKind.u64.wrap (x4 * 32)) + (IntKind.u64.wrap (t507)))) (wrap64 (x5 + 1)))))) else (none)) else (none)) else (some (x4, true))
def spec_ReadWord32.f (k : Nat) (a0 : ByteArray) : Option (Int × Bool) := if (a0.size : Int) = 13 then (spec_ReadWord32.l0 k a0 0 0) else (some (0, false))
theorem spec_ReadWord32.mono_l : ∀ k, (∀ y0 y1 y2, LeO (spec_ReadWord32.l0 k y0 y1 y2) (spec_ReadWord32.l0 (k + 1) y0 y1 y2))
  | 0 => fun _ _ _ r h => by simp [spec_ReadWord32.l0] at h
  | k + 1 => by
    have ih0 := spec_ReadWord32.mono_l k
    · intro y0 y1 y2
      unfold spec_ReadWord32.l0
      repeat' first
      | (with_reducible exact ih0 _ _ _)
      | (with_reducible exact spec_l1Index.mono _ _)
      | (with_reducible exact LeO.refl _)
      | (with_reducible exact LeO.none _)
      | (with_reducible refine LeO.ite ?_ ?_)
      | (with_reducible refine LeO.bind ?_ (fun _ => ?_))
      | exact ih0 _ _ _
      | exact spec_l1Index.mono _ _
      | exact LeO.none _
      | refine LeO.ite ?_ ?_
      | refine LeO.bind ?_ (fun _ => ?_)
theorem spec_ReadWord32.mono : ∀ a0 k, LeO (spec_ReadWord32.f k a0) (spec_ReadWord32.f (k + 1) a0) := by
  intro a0 k
  have ih0 := spec_ReadWord32.mono_l k
  unfold spec_ReadWord32.f
  repeat' first
      | (with_reducible exact ih0 _ _ _)
      | (with_reducible exact spec_l1Index.mono _ _)
      | (with_reducible exact LeO.refl _)
      | (with_reducible exact LeO.none _)
      | (with_reducible refine LeO.ite ?_ ?_)
      | (with_reducible refine LeO.bind ?_ (fun _ => ?_))
      | exact ih0 _ _ _
      | exact spec_l1Index.mono _ _
      | exact LeO.none _
      | refine LeO.ite ?_ ?_
      | refine LeO.bind ?_ (fun _ => ?_)
set_option maxHeartbeats 8000000 in
set_option maxRecDepth 100000 in
theorem spec_ReadWord32.calls (k : Nat) (a0 : ByteArray) (r1 : Int) (r2 : Bool) (w : World) (h : spec_ReadWord32.f k a0 = some (r1, r2)) :
    Calls Tryd.prog 89 #[.string a0] w fun e w' => e = .returned (.tuple #[.int .u64 r1, .bool r2]) ∧ Drawn0 w w' := by
  have H : (if (a0.size : Int) = 13 then (spec_ReadWord32.l0 k a0 0 0) else (some (0, false))) = some (r1, r2) := h
  clear h
  by_cases c2 : (a0.size : Int) = 13
  · rw [if_pos c2] at H
    have c2b0 : ((a0.size : Int) == 13) = true := beq_iff_eq.mpr c2
    have c2b1 : ((a0.size : Int) != 13) = false := bne_eq_false_iff_eq.mpr c2
    clear c2
    have H' := Aside0.mk H
    clear H
    go_enter Tryd.func89, Tryd.ntmps89
    go_wp2
    go_loopg [4, 5] k (fun kq v4 v5 w' => ∃ (x4_1 : Int) (x5_1 : Int), v4 = .int .u64 x4_1 ∧ v5 = .int .i64 x5_1 ∧ Aside0 (spec_ReadWord32.l0 kq a0 x4_1 x5_1 = some (r1, r2)) ∧ Aside0 (kq ≤ k) ∧ Drawn0 w w')
    case atStart => exact ⟨(0), (0), (by first | rfl | (simp; done) | (simp [*]; done)), (by first | rfl | (simp; done) | (simp [*]; done)), H', ⟨Nat.le_refl _⟩, by repeat (first | exact Drawn0.refl _ | apply Drawn0.step)⟩
    case round =>
      clear H'
      try clear c2
      try clear c2b0
      try clear c2b1
      try clear p2
      obtain ⟨x4_1, x5_1, rfl, rfl, HA, HK1, ⟨m1, rfl⟩⟩ := hrel
      cases gk with
      | zero => exact absurd HA.out (by simp [spec_ReadWord32.l0])
      | succ k1 =>
        have H := HA.out
        clear HA
        simp only [spec_ReadWord32.l0] at H
        by_cases c3 : x5_1 < 13
        · rw [if_pos c3] at H
          have c3b0 : decide (x5_1 < 13) = true := decide_eq_true c3
          clear c3
          by_cases c4 : 0 ≤ x5_1
          · rw [if_pos c4] at H
            have c4b0 : decide (0 ≤ x5_1) = true := decide_eq_true c4
            clear c4
            by_cases c5 : x5_1 < (a0.size : Int)
            · rw [if_pos c5] at H
              have c5b0 : decide (x5_1 < (a0.size : Int)) = true := decide_eq_true c5
              clear c5
              replace H := Option.bind_eq_some_iff.mp H
              obtain ⟨t507, A70, H⟩ := H
              replace H : (if t507 < 0 then (some (0, false)) else (if x5_1 = 0 then (if t507 > 15 then (some (0, false)) else (spec_ReadWord32.l0 k1 a0 (IntKind.u64.wrap ((IntKind.u64.wrap (x4_1 * 32)) + (IntKind.u64.wrap (t507)))) (wrap64 (x5_1 + 1)))) else (spec_ReadWord32.l0 k1 a0 (IntKind.u64.wrap ((IntKind.u64.wrap (x4_1 * 32)) + (IntKind.u64.wrap (t507)))) (wrap64 (x5_1 + 1))))) = some (r1, r2) := H
              have A7 := Aside0.mk A70
              clear A70
              by_cases c8 : t507 < 0
              · rw [if_pos c8] at H
                have c8b0 : decide (t507 < 0) = true := decide_eq_true c8
                clear c8
                simp only [Option.some.injEq, Prod.mk.injEq] at H
                obtain ⟨rfl, rfl⟩ := H
                have p6 : 0 ≤ (x5_1 : Int) := of_decide_eq_true (by first | (with_reducible assumption) | assumption)
                have q6 : x5_1 < (a0.size : Int) := of_decide_eq_true (by first | (with_reducible assumption) | assumption)
                have hx6 := bt_at a0 x5_1
                replace p6 := eq_true p6
                replace q6 := eq_true q6
                go_wp2_with (first | ((with_reducible refine gate_callee (f := 105) rfl ?_); refine goesL_ (some 17) rfl rfl Tryd.func105 (by kernel_rfl) rfl #[.int .u8 (bt a0 x5_1)] rfl (by (try simp only [List.map_toArray, List.map_cons, List.map_nil]); first | done | rfl | (simp only [List.length_drop, List.length_take]; rfl)) ?_; (with_reducible refine (spec_l1Index.calls k1 (bt a0 x5_1) t507 _ A7.out).mono ?_); rintro e w' ⟨rfl, ⟨nd, rfl⟩⟩; refine ⟨_, rfl, ?_⟩))
                go_ret2
                exact ⟨by first | rfl | (simp; done) | (simp [*]; done), by repeat (first | exact Drawn0.refl _ | apply Drawn0.step)⟩
              · rw [if_neg c8] at H
                have c8b0 : decide (t507 < 0) = false := decide_eq_false c8
                clear c8
                by_cases c9 : x5_1 = 0
                · rw [if_pos c9] at H
                  have c9b0 : (x5_1 == 0) = true := beq_iff_eq.mpr c9
                  have c9b1 : (x5_1 != 0) = false := bne_eq_false_iff_eq.mpr c9
                  clear c9
                  by_cases c10 : t507 > 15
                  · rw [if_pos c10] at H
                    have c10b0 : decide (15 < t507) = true := decide_eq_true c10
                    clear c10
                    simp only [Option.some.injEq, Prod.mk.injEq] at H
                    obtain ⟨rfl, rfl⟩ := H
                    have p6 : 0 ≤ (x5_1 : Int) := of_decide_eq_true (by first | (with_reducible assumption) | assumption)
                    have q6 : x5_1 < (a0.size : Int) := of_decide_eq_true (by first | (with_reducible assumption) | assumption)
                    have hx6 := bt_at a0 x5_1
                    replace p6 := eq_true p6
                    replace q6 := eq_true q6
                    go_wp2_with (first | ((with_reducible refine gate_callee (f := 105) rfl ?_); refine goesL_ (some 17) rfl rfl Tryd.func105 (by kernel_rfl) rfl #[.int .u8 (bt a0 x5_1)] rfl (by (try simp only [List.map_toArray, List.map_cons, List.map_nil]); first | done | rfl | (simp only [List.length_drop, List.length_take]; rfl)) ?_; (with_reducible refine (spec_l1Index.calls k1 (bt a0 x5_1) t507 _ A7.out).mono ?_); rintro e w' ⟨rfl, ⟨nd, rfl⟩⟩; refine ⟨_, rfl, ?_⟩))
                    go_ret2
                    exact ⟨by first | rfl | (simp; done) | (simp [*]; done), by repeat (first | exact Drawn0.refl _ | apply Drawn0.step)⟩
                  · rw [if_neg c10] at H
                    have c10b0 : decide (15 < t507) = false := decide_eq_false c10
                    clear c10
                    have H' := Aside0.mk H
                    clear H
                    have p6 : 0 ≤ (x5_1 : Int) := of_decide_eq_true (by first | (with_reducible assumption) | assumption)
                    have q6 : x5_1 < (a0.size : Int) := of_decide_eq_true (by first | (with_reducible assumption) | assumption)
                    have hx6 := bt_at a0 x5_1
                    replace p6 := eq_true p6
                    replace q6 := eq_true q6
                    go_wp2_with (first | ((with_reducible refine gate_callee (f := 105) rfl ?_); refine goesL_ (some 17) rfl rfl Tryd.func105 (by kernel_rfl) rfl #[.int .u8 (bt a0 x5_1)] rfl (by (try simp only [List.map_toArray, List.map_cons, List.map_nil]); first | done | rfl | (simp only [List.length_drop, List.length_take]; rfl)) ?_; (with_reducible refine (spec_l1Index.calls k1 (bt a0 x5_1) t507 _ A7.out).mono ?_); rintro e w' ⟨rfl, ⟨nd, rfl⟩⟩; refine ⟨_, rfl, ?_⟩))
                    go_roundg k1
                    case measure => have := HK1.out; omega
                    case rel => exact ⟨(IntKind.u64.wrap ((IntKind.u64.wrap (x4_1 * 32)) + (IntKind.u64.wrap (t507)))), (wrap64 (x5_1 + 1)), (by first | rfl | (simp; done) | (simp [*]; done)), (by first | rfl | (simp; done) | (simp [*]; done)), H', ⟨by have := HK1.out; omega⟩, by repeat (first | exact Drawn0.refl _ | apply Drawn0.step)⟩
                · rw [if_neg c9] at H
                  have c9b0 : (x5_1 == 0) = false := beq_eq_false_iff_ne.mpr c9
                  have c9b1 : (x5_1 != 0) = true := bne_iff_ne.mpr c9
                  have H' := Aside0.mk H
                  clear H
                  have p6 : 0 ≤ (x5_1 : Int) := of_decide_eq_true (by first | (with_reducible assumption) | assumption)
                  have q6 : x5_1 < (a0.size : Int) := of_decide_eq_true (by first | (with_reducible assumption) | assumption)
                  have hx6 := bt_at a0 x5_1
                  replace p6 := eq_true p6
                  replace q6 := eq_true q6
                  go_wp2_with (first | ((with_reducible refine gate_callee (f := 105) rfl ?_); refine goesL_ (some 17) rfl rfl Tryd.func105 (by kernel_rfl) rfl #[.int .u8 (bt a0 x5_1)] rfl (by (try simp only [List.map_toArray, List.map_cons, List.map_nil]); first | done | rfl | (simp only [List.length_drop, List.length_take]; rfl)) ?_; (with_reducible refine (spec_l1Index.calls k1 (bt a0 x5_1) t507 _ A7.out).mono ?_); rintro e w' ⟨rfl, ⟨nd, rfl⟩⟩; refine ⟨_, rfl, ?_⟩))
                  go_roundg k1
                  case measure => have := HK1.out; omega
                  case rel => exact ⟨(IntKind.u64.wrap ((IntKind.u64.wrap (x4_1 * 32)) + (IntKind.u64.wrap (t507)))), (wrap64 (x5_1 + 1)), (by first | rfl | (simp; done) | (simp [*]; done)), (by first | rfl | (simp; done) | (simp [*]; done)), H', ⟨by have := HK1.out; omega⟩, by repeat (first | exact Drawn0.refl _ | apply Drawn0.step)⟩
            · rw [if_neg c5] at H
              exact absurd H (by simp)
          · rw [if_neg c4] at H
            exact absurd H (by simp)
        · rw [if_neg c3] at H
          have c3b0 : decide (x5_1 < 13) = false := decide_eq_false c3
          clear c3
          simp only [Option.some.injEq, Prod.mk.injEq] at H
          obtain ⟨rfl, rfl⟩ := H
          go_wp2
          go_ret2
          exact ⟨by first | rfl | (simp; done) | (simp [*]; done), by repeat (first | exact Drawn0.refl _ | apply Drawn0.step)⟩
  · rw [if_neg c2] at H
    have c2b0 : ((a0.size : Int) == 13) = false := beq_eq_false_iff_ne.mpr c2
    have c2b1 : ((a0.size : Int) != 13) = true := bne_iff_ne.mpr c2
    simp only [Option.some.injEq, Prod.mk.injEq] at H
    obtain ⟨rfl, rfl⟩ := H
    go_enter Tryd.func89, Tryd.ntmps89
    go_wp2
    go_ret2
    exact ⟨by first | rfl | (simp; done) | (simp [*]; done), by repeat (first | exact Drawn0.refl _ | apply Drawn0.step)⟩
def spec_AddressOk.j0 : Nat → ByteArray → Bool → Option (Bool)
  | 0, _, _ => none
  | k + 1, x0, x12 => if x12 = true then (some false) else (if 0 ≤ 13 then (if 13 ≤ (x0.size : Int) then ((spec_ReadWord32.f k (x0.extract 0 13)).bind fun bt508 => (if bt508.2 = true then (if 14 ≤ (x0.size : Int) then ((spec_NameOk.f k (x0.extract 14 x0.size)).bind fun t510 => (some t510)) else (none)) else (some false))) else (none)) else (none))
def spec_AddressOk.f (k : Nat) (a0 : ByteArray) : Option (Bool) := if (a0.size : Int) < 15 then (spec_AddressOk.j0 k a0 true) else (if 13 < (a0.size : Int) then (spec_AddressOk.j0 k a0 ((bt a0 13) != 45)) else (none))
theorem spec_AddressOk.mono_l : ∀ k, (∀ y0 y1, LeO (spec_AddressOk.j0 k y0 y1) (spec_AddressOk.j0 (k + 1) y0 y1))
  | 0 => fun _ _ r h => by simp [spec_AddressOk.j0] at h
  | k + 1 => by
    have ih0 := spec_AddressOk.mono_l k
    · intro y0 y1
      unfold spec_AddressOk.j0
      repeat' first
      | (with_reducible exact ih0 _ _)
      | (with_reducible exact spec_NameOk.mono _ _)
      | (with_reducible exact spec_ReadWord32.mono _ _)
      | (with_reducible exact LeO.refl _)
      | (with_reducible exact LeO.none _)
      | (with_reducible refine LeO.ite ?_ ?_)
      | (with_reducible refine LeO.bind ?_ (fun _ => ?_))
      | exact ih0 _ _
      | exact spec_NameOk.mono _ _
      | exact spec_ReadWord32.mono _ _
      | exact LeO.none _
      | refine LeO.ite ?_ ?_
      | refine LeO.bind ?_ (fun _ => ?_)
theorem spec_AddressOk.mono : ∀ a0 k, LeO (spec_AddressOk.f k a0) (spec_AddressOk.f (k + 1) a0) := by
  intro a0 k
  have ih0 := spec_AddressOk.mono_l k
  unfold spec_AddressOk.f
  repeat' first
      | (with_reducible exact ih0 _ _)
      | (with_reducible exact spec_NameOk.mono _ _)
      | (with_reducible exact spec_ReadWord32.mono _ _)
      | (with_reducible exact LeO.refl _)
      | (with_reducible exact LeO.none _)
      | (with_reducible refine LeO.ite ?_ ?_)
      | (with_reducible refine LeO.bind ?_ (fun _ => ?_))
      | exact ih0 _ _
      | exact spec_NameOk.mono _ _
      | exact spec_ReadWord32.mono _ _
      | exact LeO.none _
      | refine LeO.ite ?_ ?_
      | refine LeO.bind ?_ (fun _ => ?_)
set_option maxHeartbeats 8000000 in
set_option maxRecDepth 100000 in
theorem spec_AddressOk.calls (k : Nat) (a0 : ByteArray) (r : Bool) (w : World) (h : spec_AddressOk.f k a0 = some r) :
    Calls Tryd.prog 68 #[.string a0] w fun e w' => e = .returned (.bool r) ∧ Drawn0 w w' := by
  have H : (if (a0.size : Int) < 15 then (spec_AddressOk.j0 k a0 true) else (if 13 < (a0.size : Int) then (spec_AddressOk.j0 k a0 ((bt a0 13) != 45)) else (none))) = some r := h
  clear h
  have HC2 := Aside0.mk H
  clear H
  go_enter Tryd.func68, Tryd.ntmps68
  go_upto_region 1 with (fail)
  go_cut [12] (fun v12 wc => ∃ (kq : Nat) (x12_1 : Bool), v12 = .bool x12_1 ∧ Aside0 (spec_AddressOk.j0 kq a0 x12_1 = some r) ∧ Aside0 (kq ≤ k) ∧ Drawn0 w wc)
  case first =>
    have H := HC2.out
    clear HC2
    by_cases c3 : (a0.size : Int) < 15
    · rw [if_pos c3] at H
      have c3b0 : decide ((a0.size : Int) < 15) = true := decide_eq_true c3
      have c3b1 : decide (a0.size < 15) = true := decide_eq_true (by omega)
      clear c3
      (first | rw [c3b0] | (simp only [i64_w, i32_w]; rw [c3b0]) | skip)
      have H' := Aside0.mk H
      clear H
      go_wp2
      go_meet
      case rel => exact ⟨_, (true), (by first | rfl | (simp; done) | (simp [*]; done)), H', ⟨by first | omega | exact Nat.le_refl _⟩, by repeat (first | exact Drawn0.refl _ | apply Drawn0.step)⟩
    · rw [if_neg c3] at H
      have c3b0 : decide ((a0.size : Int) < 15) = false := decide_eq_false c3
      have c3b1 : decide (a0.size < 15) = false := decide_eq_false (by omega)
      clear c3
      (first | rw [c3b0] | (simp only [i64_w, i32_w]; rw [c3b0]) | skip)
      by_cases c4 : 13 < (a0.size : Int)
      · rw [if_pos c4] at H
        have c4b0 : decide (13 < (a0.size : Int)) = true := decide_eq_true c4
        have c4b1 : decide (13 < a0.size) = true := decide_eq_true (by omega)
        clear c4
        have H' := Aside0.mk H
        clear H
        have p5 : 0 ≤ (13 : Int) := (by omega)
        have q5 : 13 < a0.size := (by have : (13 : Int) < (a0.size : Int) := of_decide_eq_true (by first | (with_reducible assumption) | assumption); omega)
        have hx5 : ∀ h : 13 < a0.size, ((a0[13]'h).toNat : Int) = bt a0 13 := bt_at a0 13
        clear p5
        have qi5 : (13 < (a0.size : Int)) = True := eq_true (of_decide_eq_true (by first | (with_reducible assumption) | assumption))
        replace q5 := eq_true q5
        go_wp2
        go_meet
        case rel => exact ⟨_, (((bt a0 13) != 45)), (by first | rfl | (simp; done) | (simp [*]; done)), H', ⟨by first | omega | exact Nat.le_refl _⟩, by repeat (first | exact Drawn0.refl _ | apply Drawn0.step)⟩
      · rw [if_neg c4] at H
        exact absurd H (by simp)
  case rest =>
    clear HC2
    try clear p2
    try clear c3
    try clear c3b0
    try clear c3b1
    try clear c4
    try clear c4b0
    try clear c4b1
    try clear p5
    try clear q5
    try clear hx5
    try clear qi5
    try clear p5
    try clear q5
    obtain ⟨kq, x12_1, rfl, HA, HJ1, ⟨mc1, rfl⟩⟩ := hcut
    cases kq with
    | zero => exact absurd HA.out (by simp [spec_AddressOk.j0])
    | succ kj1 =>
      have H := HA.out
      clear HA
      simp only [spec_AddressOk.j0] at H
      by_cases c6 : x12_1 = true
      · subst c6
        have H1 : (some false) = some r := by rw [if_pos rfl] at H; exact H
        clear H
        have H := H1
        clear H1
        obtain rfl := Option.some.inj H
        go_wp2
        go_ret
        exact ⟨by first | rfl | (simp; done) | (simp [*]; done), by repeat (first | exact Drawn0.refl _ | apply Drawn0.step)⟩
      · replace c6 := Bool.eq_false_iff.mpr c6
        subst c6
        have H1 : (if 0 ≤ 13 then (if 13 ≤ (a0.size : Int) then ((spec_ReadWord32.f kj1 (a0.extract 0 13)).bind fun bt508 => (if bt508.2 = true then (if 14 ≤ (a0.size : Int) then ((spec_NameOk.f kj1 (a0.extract 14 a0.size)).bind fun t510 => (some t510)) else (none)) else (some false))) else (none)) else (none)) = some r := by rw [if_neg (show ¬ (false = true) by decide)] at H; exact H
        clear H
        have H := H1
        clear H1
        by_cases c7 : 0 ≤ 13
        · rw [if_pos c7] at H
          have c7b0 := eq_true c7
          have c7b1 : decide (0 ≤ 13) = true := decide_eq_true c7
          clear c7
          by_cases c8 : 13 ≤ (a0.size : Int)
          · rw [if_pos c8] at H
            have c8b0 := eq_true c8
            have c8b1 : decide (13 ≤ (a0.size : Int)) = true := decide_eq_true c8
            clear c8
            replace H := Option.bind_eq_some_iff.mp H
            obtain ⟨⟨t508, t509⟩, A90, H⟩ := H
            replace H : (if t509 = true then (if 14 ≤ (a0.size : Int) then ((spec_NameOk.f kj1 (a0.extract 14 a0.size)).bind fun t510 => (some t510)) else (none)) else (some false)) = some r := H
            have A9 := Aside0.mk A90
            clear A90
            by_cases c10 : t509 = true
            · subst c10
              have H1 : (if 14 ≤ (a0.size : Int) then ((spec_NameOk.f kj1 (a0.extract 14 a0.size)).bind fun t510 => (some t510)) else (none)) = some r := by rw [if_pos rfl] at H; exact H
              clear H
              have H := H1
              clear H1
              by_cases c11 : 14 ≤ (a0.size : Int)
              · rw [if_pos c11] at H
                have c11b0 := eq_true c11
                have c11b1 : decide (14 ≤ (a0.size : Int)) = true := decide_eq_true c11
                clear c11
                replace H := Option.bind_eq_some_iff.mp H
                obtain ⟨t510, A120, H⟩ := H
                replace H : (some t510) = some r := H
                have A12 := Aside0.mk A120
                clear A120
                obtain rfl := Option.some.inj H
                go_wp2_with (first | ((with_reducible refine gate_callee (f := 89) rfl ?_); refine goesL_ (some 16) rfl rfl Tryd.func89 (by kernel_rfl) rfl #[.string (a0.extract 0 13)] rfl (by (try simp only [List.map_toArray, List.map_cons, List.map_nil]); first | done | rfl | (simp only [List.length_drop, List.length_take]; rfl)) ?_; (with_reducible refine (spec_ReadWord32.calls kj1 (a0.extract 0 13) t508 true _ A9.out).mono ?_); rintro e w' ⟨rfl, ⟨nd, rfl⟩⟩; refine ⟨_, rfl, ?_⟩) | (go_at_call 90; (with_reducible refine (spec_NameOk.calls kj1 (a0.extract 14 a0.size) t510 _ A12.out).mono ?_); rintro e w' ⟨rfl, ⟨nd, rfl⟩⟩))
                go_ret
                exact ⟨by first | rfl | (simp; done) | (simp [*]; done), by repeat (first | exact Drawn0.refl _ | apply Drawn0.step)⟩
              · rw [if_neg c11] at H
                exact absurd H (by simp)
            · replace c10 := Bool.eq_false_iff.mpr c10
              subst c10
              have H1 : (some false) = some r := by rw [if_neg (show ¬ (false = true) by decide)] at H; exact H
              clear H
              have H := H1
              clear H1
              obtain rfl := Option.some.inj H
              go_wp2_with (first | ((with_reducible refine gate_callee (f := 89) rfl ?_); refine goesL_ (some 16) rfl rfl Tryd.func89 (by kernel_rfl) rfl #[.string (a0.extract 0 13)] rfl (by (try simp only [List.map_toArray, List.map_cons, List.map_nil]); first | done | rfl | (simp only [List.length_drop, List.length_take]; rfl)) ?_; (with_reducible refine (spec_ReadWord32.calls kj1 (a0.extract 0 13) t508 false _ A9.out).mono ?_); rintro e w' ⟨rfl, ⟨nd, rfl⟩⟩; refine ⟨_, rfl, ?_⟩))
              go_ret
              exact ⟨by first | rfl | (simp; done) | (simp [*]; done), by repeat (first | exact Drawn0.refl _ | apply Drawn0.step)⟩
          · rw [if_neg c8] at H
            exact absurd H (by simp)
        · rw [if_neg c7] at H
          exact absurd H (by simp)
end Go.Proofs.YtgghefjkkidaoaaDoor.P
end

section
namespace Go.Proofs.YtgghefjkkidaoaaDoor.P
open Go.RowKit Go.Proofs.YtgghefjkkidaoaaDoorW.PrintWords Go.Proofs.YtgghefjkkidaoaaDoorW.PrintLast Go.Proofs.YtgghefjkkidaoaaDoorW.PrintMore Go.Proofs.YtgghefjkkidaoaaDoorM
attribute [local go_sem] max2_int min2_int max_two min_two max_three min_three max_four min_four   -- for this text's walks alone
set_option linter.unusedVariables false
set_option linter.unusedSimpArgs false
def spec_l10Swap.l0 : Nat → ByteArray → ByteArray → ByteArray → List Int → Int → Option (ByteArray)
  | 0, _, _, _, _, _ => none
  | k + 1, x0, x1, x2, x7, x8 => if x8 < (x0.size : Int) then (if (wrap64 (x8 + (x1.size : Int))) ≤ (x0.size : Int) then (if 0 ≤ x8 then (if x8 ≤ (wrap64 (x8 + (x1.size : Int))) then (if (x0.extract (x8 : Int).toNat ((wrap64 (x8 + (x1.size : Int))) : Int).toNat).toList = x1.toList then (if x2.size ≤ 9223372036854775807 then ((some (bytesOf x2 : List Int)).bind fun y514 => (if x7.length + y514.length < 140737488355328 then (spec_l10Swap.l0 k x0 x1 x2 (x7 ++ y514) (wrap64 (x8 + (x1.size : Int)))) else (none))) else (none)) else (if x7.length < 140737488355328 then (spec_l10Swap.l0 k x0 x1 x2 (x7 ++ [bt x0 x8]) (wrap64 (x8 + 1))) else (none))) else (none)) else (none)) else (if 0 ≤ x8 then (if x7.length < 140737488355328 then (spec_l10Swap.l0 k x0 x1 x2 (x7 ++ [bt x0 x8]) (wrap64 (x8 + 1))) else (none)) else (none))) else (some (strOfNums x7))
def spec_l10Swap.f (k : Nat) (a0 : ByteArray) (a1 : ByteArray) (a2 : ByteArray) : Option (ByteArray) := spec_l10Swap.l0 k a0 a1 a2 (([] : List Int)) 0
set_option maxHeartbeats 8000000 in
set_option maxRecDepth 100000 in
theorem spec_l10Swap.calls (k : Nat) (a0 : ByteArray) (a1 : ByteArray) (a2 : ByteArray) (r : ByteArray) (w : World) (h : spec_l10Swap.f k a0 a1 a2 = some r) :
    Calls Tryd.prog 69 #[.string a0, .string a1, .string a2] w fun e w' => e = .returned (.string r) ∧ Below w.heap.size w w' := by
  have HB := Aside0.mk (Below.refl w.heap.size w)
  have H : (spec_l10Swap.l0 k a0 a1 a2 (([] : List Int)) 0) = some r := h
  clear h
  obtain ⟨y511, hy511⟩ : ∃ y_ : List Int, y_ = (([] : List Int)) := ⟨_, rfl⟩
  replace H : (spec_l10Swap.l0 k a0 a1 a2 y511 0) = some r := by first | (rw [hy511]; with_reducible exact H) | (have H2_ := (Option.bind_some _ _).symm.trans H; rw [hy511]; with_reducible exact H2_) | (have H2_ := (Option.bind_some _ _).symm.trans H; with_reducible exact H2_) | with_reducible exact H | (rw [hy511]; exact H) | exact H
  have Ny511 := Aside0.mk hy511
  clear hy511
  have H' := Aside0.mk H
  clear H
  go_enter Tryd.func69, Tryd.ntmps69
  go_wp2_with (first | ((with_reducible refine gate_dst (N := 9) rfl ?_); (try (refine gate_guard (by rfl) ?_; dsimp only)); refine Kd.R_lit (Kd.int .u8) _ 5 ?hg (N := 9) ?hd (xs := ([] : List Int)) (inner := []) (ok := fun _ => True) (okp := fun _ => True) ?hr ?hp (fun _ hk => hk) trivial (Below.refl _ _) (Nat.le_refl _) (by simp) ?_; (case hd => rfl); (case hg => rfl); (case hr => first | (go_simp; done) | (go_simp; rfl)); (case hp => exact (Reps.none _ _)); intro v512 w4 ho5 hb hg_ hnew_; clear hg_ hnew_; (first | rw [← Ny511.out] at ho5 | (simp only [Int.reduceToNat] at ho5; rw [← Ny511.out] at ho5)); have n0_ := Aside0.mk (Kd.R_lower ho5 (below_size (by repeat (first | (with_reducible first | exact HB.out | apply below_alloc | apply pw_below_drewN | apply below_drew1) | exact HB.out)))); have n1_ := Aside0.mk (below_step (by repeat (first | (with_reducible first | exact HB.out | apply below_alloc | apply pw_below_drewN | apply below_drew1) | exact HB.out)) hb); clear HB; have HO513 := n0_; have HB := n1_; clear n0_ n1_; clear hb ho5))
  go_loopg [7, 8] k (fun kq v7 v8 w' => ∃ (x7_1 : List Int) (x8_1 : Int), v8 = .int .i64 x8_1 ∧ Aside0 (spec_l10Swap.l0 kq a0 a1 a2 x7_1 x8_1 = some r) ∧ Aside0 (kq ≤ k) ∧ Aside0 (Kd.R (Kd.int .u8) 5 w' w.heap.size (fun _ => True) v7 x7_1) ∧ Aside0 (Below w.heap.size w w'))
  case atStart => exact ⟨(y511), (0), (by first | rfl | (simp; done) | (simp [*]; done)), H', ⟨Nat.le_refl _⟩, ⟨by (with_reducible repeat (first | apply Kd.R_alloc | apply Kd.R_drewN | apply Kd.R_drew)); exact HO513.out⟩, ⟨by repeat (first | (with_reducible first | exact HB.out | apply below_alloc | apply pw_below_drewN | apply below_drew1) | exact HB.out)⟩⟩
  case round =>
    clear H'
    try clear p2
    obtain ⟨x7_1, x8_1, rfl, HA, HK1, HO_7, HB⟩ := hrel
    cases gk with
    | zero => exact absurd HA.out (by simp [spec_l10Swap.l0])
    | succ k1 =>
      have H := HA.out
      clear HA
      simp only [spec_l10Swap.l0] at H
      by_cases c6 : x8_1 < (a0.size : Int)
      · rw [if_pos c6] at H
        have c6b0 : decide (x8_1 < (a0.size : Int)) = true := decide_eq_true c6
        clear c6
        by_cases c7 : (wrap64 (x8_1 + (a1.size : Int))) ≤ (a0.size : Int)
        · rw [if_pos c7] at H
          have c7b0 : decide ((wrap64 (x8_1 + (a1.size : Int))) ≤ (a0.size : Int)) = true := decide_eq_true c7
          clear c7
          by_cases c8 : 0 ≤ x8_1
          · rw [if_pos c8] at H
            have c8b0 := eq_true c8
            have c8b1 : decide (0 ≤ x8_1) = true := decide_eq_true c8
            clear c8
            by_cases c9 : x8_1 ≤ (wrap64 (x8_1 + (a1.size : Int)))
            · rw [if_pos c9] at H
              have c9b0 := eq_true c9
              have c9b1 : decide (x8_1 ≤ (wrap64 (x8_1 + (a1.size : Int)))) = true := decide_eq_true c9
              have c10b0 := eq_true (of_decide_eq_true (by first | (with_reducible assumption) | assumption) : (wrap64 (x8_1 + (a1.size : Int))) ≤ (a0.size : Int))
              by_cases c11 : (a0.extract (x8_1 : Int).toNat ((wrap64 (x8_1 + (a1.size : Int))) : Int).toNat).toList = a1.toList
              · rw [if_pos c11] at H
                have c11b0 : ((a0.extract (x8_1 : Int).toNat ((wrap64 (x8_1 + (a1.size : Int))) : Int).toNat).toList == a1.toList) = true := beq_iff_eq.mpr c11
                have c11b1 : ((a0.extract (x8_1 : Int).toNat ((wrap64 (x8_1 + (a1.size : Int))) : Int).toNat).toList != a1.toList) = false := bne_eq_false_iff_eq.mpr c11
                clear c11
                by_cases c12 : a2.size ≤ 9223372036854775807
                · rw [if_pos c12] at H
                  have c12b0 := eq_true c12
                  have c12b1 : decide (a2.size ≤ 9223372036854775807) = true := decide_eq_true c12
                  try have c12b2 : (9223372036854775807 < a2.size) = False := eq_false (Nat.not_lt.2 c12)
                  clear c12
                  obtain ⟨y514, hy514⟩ : ∃ y_ : List Int, y_ = (bytesOf a2) := ⟨_, rfl⟩
                  replace H : (if x7_1.length + y514.length < 140737488355328 then (spec_l10Swap.l0 k1 a0 a1 a2 (x7_1 ++ y514) (wrap64 (x8_1 + (a1.size : Int)))) else (none)) = some r := by first | (rw [hy514]; with_reducible exact H) | (have H2_ := (Option.bind_some _ _).symm.trans H; rw [hy514]; with_reducible exact H2_) | (have H2_ := (Option.bind_some _ _).symm.trans H; with_reducible exact H2_) | with_reducible exact H | (rw [hy514]; exact H) | exact H
                  have Ny514 := Aside0.mk hy514
                  clear hy514
                  by_cases c13 : x7_1.length + y514.length < 140737488355328
                  · rw [if_pos c13] at H
                    have LMc13 := Aside0.mk c13
                    clear c13
                    obtain ⟨y516, hy516⟩ : ∃ y_ : List Int, y_ = (x7_1 ++ y514) := ⟨_, rfl⟩
                    replace H : (spec_l10Swap.l0 k1 a0 a1 a2 y516 (wrap64 (x8_1 + (a1.size : Int)))) = some r := by first | (rw [hy516]; with_reducible exact H) | (have H2_ := (Option.bind_some _ _).symm.trans H; rw [hy516]; with_reducible exact H2_) | (have H2_ := (Option.bind_some _ _).symm.trans H; with_reducible exact H2_) | with_reducible exact H | (rw [hy516]; exact H) | exact H
                    have Ny516 := Aside0.mk hy516
                    clear hy516
                    have H' := Aside0.mk H
                    clear H
                    go_wp2_with (first | ((with_reducible refine gate_dst (N := 34) rfl ?_); (try (refine gate_guard (by rfl) ?_; dsimp only)); refine conv_bytes rfl (N := 34) rfl 9 29 5 _ rfl Tryd.underlying9 Tryd.underlying29 Tryd.underlying5 a2 rfl (show a2.size ≤ 9223372036854775807 from by first | assumption | exact of_eq_true (by assumption) | exact of_decide_eq_true (by assumption) | decide | omega) _ Ny514.out ?_; intro A515 c515 w14 hcv hcl hb; have n0_ := Aside0.mk (Kd.R_below (by (with_reducible repeat (first | apply Kd.R_alloc | apply Kd.R_drewN | apply Kd.R_drew)); exact HO_7.out) hb); have n1_ := Aside0.mk (below_step (by repeat (first | (with_reducible first | exact HB.out | apply below_alloc | apply pw_below_drewN | apply below_drew1) | exact HB.out)) hb); have n2_ := Aside0.mk (hcv); have n3_ := Aside0.mk (hcl); clear HO_7; clear HB; have HO_7 := n0_; have HB := n1_; have HS515 := n2_; have HC515 := n3_; clear n0_ n1_ n2_ n3_; clear hb hcv hcl) | ((with_reducible refine gate_builtin (b := .append) (xs := #[.tmp 32, .tmp 34]) rfl ?_); (try (refine gate_guard (by rfl) ?_; dsimp only)); at_builtin; refine Kd.R_append_rows (Kd.int .u8) (w0 := w) w.heap.size rfl (.tmp 32) (.tmp 34) 29 5 (.int .u8 0) 1 rfl Tryd.underlying29 info5 rfl (by decide) (by omega) u7 x7_1 y514 _ _ _ (fun _ => True) (fun _ => False) rfl rfl ?aO ?aR (fun _ _ h => h) (fun _ h => h.elim) ?aF ?aB ?aS ?aL ?_; (case aR => repeat (first | exact (by repeat (first | (with_reducible exact HS515.out) | (with_reducible refine Kd.C_alloc ?_ _) | (with_reducible refine Kd.C_drewN ?_ _) | (with_reducible refine Kd.C_drew ?_) | exact HS515.out)) | (with_reducible refine Kd.C_alloc ?_ _) | (with_reducible refine Kd.C_drewN ?_ _) | (with_reducible refine Kd.C_drew ?_))); (case aB => exact (by repeat (first | (with_reducible first | exact HB.out | apply below_alloc | apply pw_below_drewN | apply below_drew1) | exact HB.out))); (case aF => exact (fun _ _ => trivial)); (case aO => exact (by (with_reducible repeat (first | apply Kd.R_alloc | apply Kd.R_drewN | apply Kd.R_drew)); exact HO_7.out)); (case aS => exact (below_size (by repeat (first | (with_reducible first | exact HB.out | apply below_alloc | apply pw_below_drewN | apply below_drew1) | exact HB.out)))); (case aL => have := LMc13.out; omega); intro v517 w15 ho hb hg hat; rw [← Ny516.out] at ho; have n0_ := Aside0.mk (hb); have n1_ := Aside0.mk (ho); clear HB; clear HO_7; have HB := n0_; have HO518 := n1_; clear n0_ n1_; clear ho hb hg hat))
                    go_roundg k1
                    case measure => have := HK1.out; omega
                    case rel => exact ⟨(y516), (wrap64 (x8_1 + (a1.size : Int))), (by first | rfl | (simp; done) | (simp [*]; done)), H', ⟨by have := HK1.out; omega⟩, ⟨by (with_reducible repeat (first | apply Kd.R_alloc | apply Kd.R_drewN | apply Kd.R_drew)); exact HO518.out⟩, ⟨by repeat (first | (with_reducible first | exact HB.out | apply below_alloc | apply pw_below_drewN | apply below_drew1) | exact HB.out)⟩⟩
                  · rw [if_neg c13] at H
                    exact absurd H (by simp)
                · rw [if_neg c12] at H
                  exact absurd H (by simp)
              · rw [if_neg c11] at H
                have c11b0 : ((a0.extract (x8_1 : Int).toNat ((wrap64 (x8_1 + (a1.size : Int))) : Int).toNat).toList == a1.toList) = false := beq_eq_false_iff_ne.mpr c11
                have c11b1 : ((a0.extract (x8_1 : Int).toNat ((wrap64 (x8_1 + (a1.size : Int))) : Int).toNat).toList != a1.toList) = true := bne_iff_ne.mpr c11
                by_cases c17 : x7_1.length < 140737488355328
                · rw [if_pos c17] at H
                  have LMc17 := Aside0.mk c17
                  clear c17
                  obtain ⟨y519, hy519⟩ : ∃ y_ : List Int, y_ = (x7_1 ++ [bt a0 x8_1]) := ⟨_, rfl⟩
                  replace H : (spec_l10Swap.l0 k1 a0 a1 a2 y519 (wrap64 (x8_1 + 1))) = some r := by first | (rw [hy519]; with_reducible exact H) | (have H2_ := (Option.bind_some _ _).symm.trans H; rw [hy519]; with_reducible exact H2_) | (have H2_ := (Option.bind_some _ _).symm.trans H; with_reducible exact H2_) | with_reducible exact H | (rw [hy519]; exact H) | exact H
                  have Ny519 := Aside0.mk hy519
                  clear hy519
                  have H' := Aside0.mk H
                  clear H
                  have p16 : 0 ≤ (x8_1 : Int) := of_decide_eq_true (by first | (with_reducible assumption) | assumption)
                  have q16 : x8_1 < (a0.size : Int) := of_decide_eq_true (by first | (with_reducible assumption) | assumption)
                  have hx16 := bt_at a0 x8_1
                  replace p16 := eq_true p16
                  replace q16 := eq_true q16
                  go_wp2_with (first | ((with_reducible refine gate_builtin (b := .append) (xs := #[.tmp 40, .tmp 44]) rfl ?_); (try (refine gate_guard (by rfl) ?_; dsimp only)); at_builtin; refine Kd.R_append (Kd.int .u8) (w0 := w) w.heap.size rfl (.tmp 40) (.tmp 44) 29 5 (.int .u8 0) 1 rfl Tryd.underlying29 info5 rfl (by decide) (by omega) u7 x7_1 (bt a0 x8_1) [.int .u8 (bt a0 x8_1)] (fun _ => True) (fun _ => False) rfl rfl ?aP (fun _ hk => hk.elim) ?aF ?aO ?aB ?aS ?aL ?_; (case aP => exact rfl); (case aB => exact (by repeat (first | (with_reducible first | exact HB.out | apply below_alloc | apply pw_below_drewN | apply below_drew1) | exact HB.out))); (case aF => exact (fun _ _ => trivial)); (case aO => exact (by (with_reducible repeat (first | apply Kd.R_alloc | apply Kd.R_drewN | apply Kd.R_drew)); exact HO_7.out)); (case aS => exact (below_size (by repeat (first | (with_reducible first | exact HB.out | apply below_alloc | apply pw_below_drewN | apply below_drew1) | exact HB.out)))); (case aL => have := LMc17.out; omega); intro v520 w18 ho hb hg hat; rw [← Ny519.out] at ho; have n0_ := Aside0.mk (hb); have n1_ := Aside0.mk (ho); clear HB; clear HO_7; have HB := n0_; have HO521 := n1_; clear n0_ n1_; clear ho hb hg hat))
                  go_roundg k1
                  case measure => have := HK1.out; omega
                  case rel => exact ⟨(y519), (wrap64 (x8_1 + 1)), (by first | rfl | (simp; done) | (simp [*]; done)), H', ⟨by have := HK1.out; omega⟩, ⟨by (with_reducible repeat (first | apply Kd.R_alloc | apply Kd.R_drewN | apply Kd.R_drew)); exact HO521.out⟩, ⟨by repeat (first | (with_reducible first | exact HB.out | apply below_alloc | apply pw_below_drewN | apply below_drew1) | exact HB.out)⟩⟩
                · rw [if_neg c17] at H
                  exact absurd H (by simp)
            · rw [if_neg c9] at H
              exact absurd H (by simp)
          · rw [if_neg c8] at H
            exact absurd H (by simp)
        · rw [if_neg c7] at H
          have c7b0 : decide ((wrap64 (x8_1 + (a1.size : Int))) ≤ (a0.size : Int)) = false := decide_eq_false c7
          clear c7
          by_cases c19 : 0 ≤ x8_1
          · rw [if_pos c19] at H
            have c19b0 : decide (0 ≤ x8_1) = true := decide_eq_true c19
            clear c19
            by_cases c21 : x7_1.length < 140737488355328
            · rw [if_pos c21] at H
              have LMc21 := Aside0.mk c21
              clear c21
              obtain ⟨y522, hy522⟩ : ∃ y_ : List Int, y_ = (x7_1 ++ [bt a0 x8_1]) := ⟨_, rfl⟩
              replace H : (spec_l10Swap.l0 k1 a0 a1 a2 y522 (wrap64 (x8_1 + 1))) = some r := by first | (rw [hy522]; with_reducible exact H) | (have H2_ := (Option.bind_some _ _).symm.trans H; rw [hy522]; with_reducible exact H2_) | (have H2_ := (Option.bind_some _ _).symm.trans H; with_reducible exact H2_) | with_reducible exact H | (rw [hy522]; exact H) | exact H
              have Ny522 := Aside0.mk hy522
              clear hy522
              have H' := Aside0.mk H
              clear H
              have p20 : 0 ≤ (x8_1 : Int) := of_decide_eq_true (by first | (with_reducible assumption) | assumption)
              have q20 : x8_1 < (a0.size : Int) := of_decide_eq_true (by first | (with_reducible assumption) | assumption)
              have hx20 := bt_at a0 x8_1
              replace p20 := eq_true p20
              replace q20 := eq_true q20
              go_wp2_with (first | ((with_reducible refine gate_builtin (b := .append) (xs := #[.tmp 40, .tmp 44]) rfl ?_); (try (refine gate_guard (by rfl) ?_; dsimp only)); at_builtin; refine Kd.R_append (Kd.int .u8) (w0 := w) w.heap.size rfl (.tmp 40) (.tmp 44) 29 5 (.int .u8 0) 1 rfl Tryd.underlying29 info5 rfl (by decide) (by omega) u7 x7_1 (bt a0 x8_1) [.int .u8 (bt a0 x8_1)] (fun _ => True) (fun _ => False) rfl rfl ?aP (fun _ hk => hk.elim) ?aF ?aO ?aB ?aS ?aL ?_; (case aP => exact rfl); (case aB => exact (by repeat (first | (with_reducible first | exact HB.out | apply below_alloc | apply pw_below_drewN | apply below_drew1) | exact HB.out))); (case aF => exact (fun _ _ => trivial)); (case aO => exact (by (with_reducible repeat (first | apply Kd.R_alloc | apply Kd.R_drewN | apply Kd.R_drew)); exact HO_7.out)); (case aS => exact (below_size (by repeat (first | (with_reducible first | exact HB.out | apply below_alloc | apply pw_below_drewN | apply below_drew1) | exact HB.out)))); (case aL => have := LMc21.out; omega); intro v523 w22 ho hb hg hat; rw [← Ny522.out] at ho; have n0_ := Aside0.mk (hb); have n1_ := Aside0.mk (ho); clear HB; clear HO_7; have HB := n0_; have HO524 := n1_; clear n0_ n1_; clear ho hb hg hat))
              go_roundg k1
              case measure => have := HK1.out; omega
              case rel => exact ⟨(y522), (wrap64 (x8_1 + 1)), (by first | rfl | (simp; done) | (simp [*]; done)), H', ⟨by have := HK1.out; omega⟩, ⟨by (with_reducible repeat (first | apply Kd.R_alloc | apply Kd.R_drewN | apply Kd.R_drew)); exact HO524.out⟩, ⟨by repeat (first | (with_reducible first | exact HB.out | apply below_alloc | apply pw_below_drewN | apply below_drew1) | exact HB.out)⟩⟩
            · rw [if_neg c21] at H
              exact absurd H (by simp)
          · rw [if_neg c19] at H
            exact absurd H (by simp)
      · rw [if_neg c6] at H
        have c6b0 : decide (x8_1 < (a0.size : Int)) = false := decide_eq_false c6
        clear c6
        obtain rfl := Option.some.inj H
        have hcv23 := own_string (P := Tryd.prog) Tryd.underlying29 Tryd.underlying5 Tryd.underlying9 (Kd.own_of_R HO_7.out)
        go_wp2
        go_ret
        exact ⟨by first | rfl | (simp [errW_none, errW_some] <;> rfl) | (simp [*, errW_none, errW_some] <;> rfl), by repeat (first | (with_reducible first | exact HB.out | apply below_alloc | apply pw_below_drewN | apply below_drew1) | exact HB.out)⟩
mutual
def spec_Replace.j0 : Nat → List (S47) → ByteArray → ByteArray → Bool → Option ((List (S47)))
  | 0, _, _, _, _ => none
  | k + 1, x0, x1, x2, x28 => if x28 = true then (some (([] : List (S47)))) else ((spec_l10Copy.f x0).bind fun t531 => (spec_Replace.l0 k x1 x2 t531 0))
def spec_Replace.l0 : Nat → ByteArray → ByteArray → List (S47) → Int → Option ((List (S47)))
  | 0, _, _, _, _ => none
  | k + 1, x1, x2, x7, x8 => if x8 < (x7.length : Int) then (if 0 ≤ x8 then ((spec_l10Swap.f k ((rd_T47 x7 x8).f2) x1 x2).bind fun t535 => (spec_Replace.l0 k x1 x2 (x7.set (x8 : Int).toNat (⟨(rd_T47 x7 x8).f0, (rd_T47 x7 x8).f1, t535, (rd_T47 x7 x8).f3⟩ : S47)) (wrap64 (x8 + 1)))) else (none)) else (some x7)
end
def spec_Replace.f (k : Nat) (l0 : List (S47)) (a1 : ByteArray) (a2 : ByteArray) : Option ((List (S47))) := (spec_TreeOk.f k l0).bind fun t525 => (if t525 = true then ((spec_AddressOk.f k a1).bind fun t526 => (if t526 = true then ((spec_AddressOk.f k a2).bind fun t527 => (if t527 = true then (spec_Replace.j0 k l0 a1 a2 ((a1.size : Int) != (a2.size : Int))) else (spec_Replace.j0 k l0 a1 a2 true))) else (spec_Replace.j0 k l0 a1 a2 true))) else (spec_Replace.j0 k l0 a1 a2 true))
set_option maxHeartbeats 8000000 in
set_option maxRecDepth 100000 in
theorem spec_Replace.calls (k : Nat) (A0 : Option Addr) (c0 : Nat) (l0 : List (S47)) (a1 : ByteArray) (a2 : ByteArray) (r : List (S47)) (w : World) (hr0 : Kd.C k47 w A0 l0.length l0) (hc0 : l0.length ≤ c0) (h : spec_Replace.f k l0 a1 a2 = some r) :
    Calls Tryd.prog 30 #[.slice A0 l0.length c0, .string a1, .string a2] w fun e w' => ∃ v0_ : Value, e = .returned (v0_) ∧ Kd.R k47 47 w' w.heap.size (fun _ => True) v0_ r ∧ Below w.heap.size w w' := by
  have HR0 := Aside0.mk hr0
  have HC0 := Aside0.mk hc0
  clear hr0 hc0
  have HB := Aside0.mk (Below.refl w.heap.size w)
  have H : ((spec_TreeOk.f k l0).bind fun t525 => (if t525 = true then ((spec_AddressOk.f k a1).bind fun t526 => (if t526 = true then ((spec_AddressOk.f k a2).bind fun t527 => (if t527 = true then (spec_Replace.j0 k l0 a1 a2 ((a1.size : Int) != (a2.size : Int))) else (spec_Replace.j0 k l0 a1 a2 true))) else (spec_Replace.j0 k l0 a1 a2 true))) else (spec_Replace.j0 k l0 a1 a2 true))) = some r := h
  clear h
  have HC4 := Aside0.mk H
  clear H
  go_enter Tryd.func30, Tryd.ntmps30
  go_upto_region 1 with (fail)
  go_cut [28] (fun v28 wc => ∃ (kq : Nat) (x28_3 : Bool), v28 = .bool x28_3 ∧ Aside0 (spec_Replace.j0 kq l0 a1 a2 x28_3 = some r) ∧ Aside0 (kq ≤ k) ∧ Aside0 (Below w.heap.size w wc))
  case first =>
    have H := HC4.out
    clear HC4
    replace H := Option.bind_eq_some_iff.mp H
    obtain ⟨t525, A50, H⟩ := H
    replace H : (if t525 = true then ((spec_AddressOk.f k a1).bind fun t526 => (if t526 = true then ((spec_AddressOk.f k a2).bind fun t527 => (if t527 = true then (spec_Replace.j0 k l0 a1 a2 ((a1.size : Int) != (a2.size : Int))) else (spec_Replace.j0 k l0 a1 a2 true))) else (spec_Replace.j0 k l0 a1 a2 true))) else (spec_Replace.j0 k l0 a1 a2 true)) = some r := H
    have A5 := Aside0.mk A50
    clear A50
    by_cases c6 : t525 = true
    · subst c6
      have H1 : ((spec_AddressOk.f k a1).bind fun t526 => (if t526 = true then ((spec_AddressOk.f k a2).bind fun t527 => (if t527 = true then (spec_Replace.j0 k l0 a1 a2 ((a1.size : Int) != (a2.size : Int))) else (spec_Replace.j0 k l0 a1 a2 true))) else (spec_Replace.j0 k l0 a1 a2 true))) = some r := by rw [if_pos rfl] at H; exact H
      clear H
      have H := H1
      clear H1
      replace H := Option.bind_eq_some_iff.mp H
      obtain ⟨t526, A70, H⟩ := H
      replace H : (if t526 = true then ((spec_AddressOk.f k a2).bind fun t527 => (if t527 = true then (spec_Replace.j0 k l0 a1 a2 ((a1.size : Int) != (a2.size : Int))) else (spec_Replace.j0 k l0 a1 a2 true))) else (spec_Replace.j0 k l0 a1 a2 true)) = some r := H
      have A7 := Aside0.mk A70
      clear A70
      by_cases c8 : t526 = true
      · subst c8
        have H1 : ((spec_AddressOk.f k a2).bind fun t527 => (if t527 = true then (spec_Replace.j0 k l0 a1 a2 ((a1.size : Int) != (a2.size : Int))) else (spec_Replace.j0 k l0 a1 a2 true))) = some r := by rw [if_pos rfl] at H; exact H
        clear H
        have H := H1
        clear H1
        replace H := Option.bind_eq_some_iff.mp H
        obtain ⟨t527, A90, H⟩ := H
        replace H : (if t527 = true then (spec_Replace.j0 k l0 a1 a2 ((a1.size : Int) != (a2.size : Int))) else (spec_Replace.j0 k l0 a1 a2 true)) = some r := H
        have A9 := Aside0.mk A90
        clear A90
        by_cases c10 : t527 = true
        · subst c10
          have H1 : (spec_Replace.j0 k l0 a1 a2 ((a1.size : Int) != (a2.size : Int))) = some r := by rw [if_pos rfl] at H; exact H
          clear H
          have H := H1
          clear H1
          have H' := Aside0.mk H
          clear H
          go_wp2_with (first | ((with_reducible refine gate_callee (f := 38) rfl ?_); refine goesL_ (some 10) rfl rfl Tryd.func38 (by kernel_rfl) rfl #[.slice A0 l0.length c0] rfl (by (try simp only [List.map_toArray, List.map_cons, List.map_nil]); first | done | rfl | (simp only [List.length_drop, List.length_take]; rfl)) ?_; (with_reducible refine (spec_TreeOk.calls k _ _ l0 true _ ?side1 ?side2 A5.out).mono ?_); (case side1 => repeat (first | exact (Kd.C_below HR0.out HB.out) | (with_reducible refine Kd.C_alloc ?_ _) | (with_reducible refine Kd.C_drewN ?_ _) | (with_reducible refine Kd.C_drew ?_))); (case side2 => exact HC0.out); rintro e w11 ⟨rfl, hb⟩; refine ⟨_, rfl, ?_⟩; have n0_ := Aside0.mk (below_step (by repeat (first | (with_reducible first | exact HB.out | apply below_alloc | apply pw_below_drewN | apply below_drew1) | exact HB.out)) hb); clear HB; have HB := n0_; clear n0_; (try clear hb); (try clear hb2); (try clear hk); (try clear hi)) | (go_at_call 68; (with_reducible refine (spec_AddressOk.calls k a1 true _ A7.out).mono ?_); rintro e w' ⟨rfl, ⟨nd, rfl⟩⟩) | (go_at_call 68; (with_reducible refine (spec_AddressOk.calls k a2 true _ A9.out).mono ?_); rintro e w' ⟨rfl, ⟨nd, rfl⟩⟩))
          go_meet
          case rel => exact ⟨_, (((a1.size : Int) != (a2.size : Int))), (by first | rfl | (simp; done) | (simp [*]; done)), H', ⟨by first | omega | exact Nat.le_refl _⟩, ⟨by repeat (first | (with_reducible first | exact HB.out | apply below_alloc | apply pw_below_drewN | apply below_drew1) | exact HB.out)⟩⟩
        · replace c10 := Bool.eq_false_iff.mpr c10
          subst c10
          have H1 : (spec_Replace.j0 k l0 a1 a2 true) = some r := by rw [if_neg (show ¬ (false = true) by decide)] at H; exact H
          clear H
          have H := H1
          clear H1
          have H' := Aside0.mk H
          clear H
          go_wp2_with (first | ((with_reducible refine gate_callee (f := 38) rfl ?_); refine goesL_ (some 10) rfl rfl Tryd.func38 (by kernel_rfl) rfl #[.slice A0 l0.length c0] rfl (by (try simp only [List.map_toArray, List.map_cons, List.map_nil]); first | done | rfl | (simp only [List.length_drop, List.length_take]; rfl)) ?_; (with_reducible refine (spec_TreeOk.calls k _ _ l0 true _ ?side1 ?side2 A5.out).mono ?_); (case side1 => repeat (first | exact (Kd.C_below HR0.out HB.out) | (with_reducible refine Kd.C_alloc ?_ _) | (with_reducible refine Kd.C_drewN ?_ _) | (with_reducible refine Kd.C_drew ?_))); (case side2 => exact HC0.out); rintro e w12 ⟨rfl, hb⟩; refine ⟨_, rfl, ?_⟩; have n0_ := Aside0.mk (below_step (by repeat (first | (with_reducible first | exact HB.out | apply below_alloc | apply pw_below_drewN | apply below_drew1) | exact HB.out)) hb); clear HB; have HB := n0_; clear n0_; (try clear hb); (try clear hb2); (try clear hk); (try clear hi)) | (go_at_call 68; (with_reducible refine (spec_AddressOk.calls k a1 true _ A7.out).mono ?_); rintro e w' ⟨rfl, ⟨nd, rfl⟩⟩) | (go_at_call 68; (with_reducible refine (spec_AddressOk.calls k a2 false _ A9.out).mono ?_); rintro e w' ⟨rfl, ⟨nd, rfl⟩⟩))
          go_meet
          case rel => exact ⟨_, (true), (by first | rfl | (simp; done) | (simp [*]; done)), H', ⟨by first | omega | exact Nat.le_refl _⟩, ⟨by repeat (first | (with_reducible first | exact HB.out | apply below_alloc | apply pw_below_drewN | apply below_drew1) | exact HB.out)⟩⟩
      · replace c8 := Bool.eq_false_iff.mpr c8
        subst c8
        have H1 : (spec_Replace.j0 k l0 a1 a2 true) = some r := by rw [if_neg (show ¬ (false = true) by decide)] at H; exact H
        clear H
        have H := H1
        clear H1
        have H' := Aside0.mk H
        clear H
        go_wp2_with (first | ((with_reducible refine gate_callee (f := 38) rfl ?_); refine goesL_ (some 10) rfl rfl Tryd.func38 (by kernel_rfl) rfl #[.slice A0 l0.length c0] rfl (by (try simp only [List.map_toArray, List.map_cons, List.map_nil]); first | done | rfl | (simp only [List.length_drop, List.length_take]; rfl)) ?_; (with_reducible refine (spec_TreeOk.calls k _ _ l0 true _ ?side1 ?side2 A5.out).mono ?_); (case side1 => repeat (first | exact (Kd.C_below HR0.out HB.out) | (with_reducible refine Kd.C_alloc ?_ _) | (with_reducible refine Kd.C_drewN ?_ _) | (with_reducible refine Kd.C_drew ?_))); (case side2 => exact HC0.out); rintro e w13 ⟨rfl, hb⟩; refine ⟨_, rfl, ?_⟩; have n0_ := Aside0.mk (below_step (by repeat (first | (with_reducible first | exact HB.out | apply below_alloc | apply pw_below_drewN | apply below_drew1) | exact HB.out)) hb); clear HB; have HB := n0_; clear n0_; (try clear hb); (try clear hb2); (try clear hk); (try clear hi)) | (go_at_call 68; (with_reducible refine (spec_AddressOk.calls k a1 false _ A7.out).mono ?_); rintro e w' ⟨rfl, ⟨nd, rfl⟩⟩))
        go_meet
        case rel => exact ⟨_, (true), (by first | rfl | (simp; done) | (simp [*]; done)), H', ⟨by first | omega | exact Nat.le_refl _⟩, ⟨by repeat (first | (with_reducible first | exact HB.out | apply below_alloc | apply pw_below_drewN | apply below_drew1) | exact HB.out)⟩⟩
    · replace c6 := Bool.eq_false_iff.mpr c6
      subst c6
      have H1 : (spec_Replace.j0 k l0 a1 a2 true) = some r := by rw [if_neg (show ¬ (false = true) by decide)] at H; exact H
      clear H
      have H := H1
      clear H1
      have H' := Aside0.mk H
      clear H
      go_wp2_with (first | ((with_reducible refine gate_callee (f := 38) rfl ?_); refine goesL_ (some 10) rfl rfl Tryd.func38 (by kernel_rfl) rfl #[.slice A0 l0.length c0] rfl (by (try simp only [List.map_toArray, List.map_cons, List.map_nil]); first | done | rfl | (simp only [List.length_drop, List.length_take]; rfl)) ?_; (with_reducible refine (spec_TreeOk.calls k _ _ l0 false _ ?side1 ?side2 A5.out).mono ?_); (case side1 => repeat (first | exact (Kd.C_below HR0.out HB.out) | (with_reducible refine Kd.C_alloc ?_ _) | (with_reducible refine Kd.C_drewN ?_ _) | (with_reducible refine Kd.C_drew ?_))); (case side2 => exact HC0.out); rintro e w14 ⟨rfl, hb⟩; refine ⟨_, rfl, ?_⟩; have n0_ := Aside0.mk (below_step (by repeat (first | (with_reducible first | exact HB.out | apply below_alloc | apply pw_below_drewN | apply below_drew1) | exact HB.out)) hb); clear HB; have HB := n0_; clear n0_; (try clear hb); (try clear hb2); (try clear hk); (try clear hi)))
      go_meet
      case rel => exact ⟨_, (true), (by first | rfl | (simp; done) | (simp [*]; done)), H', ⟨by first | omega | exact Nat.le_refl _⟩, ⟨by repeat (first | (with_reducible first | exact HB.out | apply below_alloc | apply pw_below_drewN | apply below_drew1) | exact HB.out)⟩⟩
  case rest =>
    clear HC4
    try clear c1
    try clear p2
    try clear c3
    try clear c6
    try clear c8
    try clear c10
    obtain ⟨kq, x28_3, rfl, HA, HJ3, HB⟩ := hcut
    cases kq with
    | zero => exact absurd HA.out (by simp [spec_Replace.j0])
    | succ kj3 =>
      have H := HA.out
      clear HA
      simp only [spec_Replace.j0] at H
      by_cases c15 : x28_3 = true
      · subst c15
        have H1 : (some (([] : List (S47)))) = some r := by rw [if_pos rfl] at H; exact H
        clear H
        have H := H1
        clear H1
        obtain ⟨y528, hy528⟩ : ∃ y_ : List (S47), y_ = (([] : List (S47))) := ⟨_, rfl⟩
        replace H : (some y528) = some r := by first | (rw [hy528]; with_reducible exact H) | (have H2_ := (Option.bind_some _ _).symm.trans H; rw [hy528]; with_reducible exact H2_) | (have H2_ := (Option.bind_some _ _).symm.trans H; with_reducible exact H2_) | with_reducible exact H | (rw [hy528]; exact H) | exact H
        have Ny528 := Aside0.mk hy528
        clear hy528
        obtain rfl := Option.some.inj H
        go_wp2_with (first | ((with_reducible refine gate_dst (N := 29) rfl ?_); (try (refine gate_guard (by rfl) ?_; dsimp only)); refine Kd.R_lit k47 _ 47 ?hg (N := 29) ?hd (xs := ([] : List (S47))) (inner := []) (ok := fun _ => True) (okp := fun _ => True) ?hr ?hp (fun _ hk => hk) trivial (Below.refl _ _) (Nat.le_refl _) (by simp) ?_; (case hd => rfl); (case hg => rfl); (case hr => first | (go_simp; done) | (go_simp; rfl)); (case hp => exact (Reps.none _ _)); intro v529 w16 ho17 hb hg_ hnew_; clear hg_ hnew_; (first | rw [← Ny528.out] at ho17 | (simp only [Int.reduceToNat] at ho17; rw [← Ny528.out] at ho17)); have n0_ := Aside0.mk (Kd.R_lower ho17 (below_size (by repeat (first | (with_reducible first | exact HB.out | apply below_alloc | apply pw_below_drewN | apply below_drew1) | exact HB.out)))); have n1_ := Aside0.mk (below_step (by repeat (first | (with_reducible first | exact HB.out | apply below_alloc | apply pw_below_drewN | apply below_drew1) | exact HB.out)) hb); clear HB; have HO530 := n0_; have HB := n1_; clear n0_ n1_; clear hb ho17))
        go_ret
        exact ⟨_, by first | rfl | (simp [errW_none, errW_some] <;> rfl) | (simp [*, errW_none, errW_some] <;> rfl), by (with_reducible repeat (first | apply Kd.R_alloc | apply Kd.R_drewN | apply Kd.R_drew)); exact HO530.out, by repeat (first | (with_reducible first | exact HB.out | apply below_alloc | apply pw_below_drewN | apply below_drew1) | exact HB.out)⟩
      · replace c15 := Bool.eq_false_iff.mpr c15
        subst c15
        have H1 : ((spec_l10Copy.f l0).bind fun t531 => (spec_Replace.l0 kj3 a1 a2 t531 0)) = some r := by rw [if_neg (show ¬ (false = true) by decide)] at H; exact H
        clear H
        have H := H1
        clear H1
        replace H := Option.bind_eq_some_iff.mp H
        obtain ⟨t531, A180, H⟩ := H
        replace H : (spec_Replace.l0 kj3 a1 a2 t531 0) = some r := H
        have A18 := Aside0.mk A180
        clear A180
        have H' := Aside0.mk H
        clear H
        go_wp2_with (first | ((with_reducible refine gate_callee (f := 57) rfl ?_); refine goesL_ (some 31) rfl rfl Tryd.func57 (by kernel_rfl) rfl #[.slice A0 l0.length c0] rfl (by (try simp only [List.map_toArray, List.map_cons, List.map_nil]); first | done | rfl | (simp only [List.length_drop, List.length_take]; rfl)) ?_; (with_reducible refine (spec_l10Copy.calls _ _ l0 t531 _ ?side1 ?side2 A18.out).mono ?_); (case side1 => repeat (first | exact (Kd.C_below HR0.out HB.out) | (with_reducible refine Kd.C_alloc ?_ _) | (with_reducible refine Kd.C_drewN ?_ _) | (with_reducible refine Kd.C_drew ?_))); (case side2 => exact HC0.out); rintro e w19 ⟨v532, rfl, ho0, hb⟩; refine ⟨_, rfl, ?_⟩; have n0_ := Aside0.mk (Kd.R_lower ho0 (below_size (by repeat (first | (with_reducible first | exact HB.out | apply below_alloc | apply pw_below_drewN | apply below_drew1) | exact HB.out)))); have n1_ := Aside0.mk (below_step (by repeat (first | (with_reducible first | exact HB.out | apply below_alloc | apply pw_below_drewN | apply below_drew1) | exact HB.out)) hb); clear HB; have HO533 := n0_; have HB := n1_; clear n0_ n1_; (try clear hb); (try clear hb2); (try clear hk); (try clear hi); (try clear ho0)))
        go_loopg [8] kj3 (fun kq v8 w' => ∃ (x7_2 : List (S47)) (x8_2 : Int), v8 = .int .i64 x8_2 ∧ Aside0 (spec_Replace.l0 kq a1 a2 x7_2 x8_2 = some r) ∧ Aside0 (kq ≤ kj3) ∧ Aside0 (Kd.R k47 47 w' w.heap.size (fun _ => True) v532 x7_2) ∧ Aside0 (Below w.heap.size w w'))
        case atStart => exact ⟨(t531), (0), (by first | rfl | (simp; done) | (simp [*]; done)), H', ⟨Nat.le_refl _⟩, ⟨by (with_reducible repeat (first | apply Kd.R_alloc | apply Kd.R_drewN | apply Kd.R_drew)); exact HO533.out⟩, ⟨by repeat (first | (with_reducible first | exact HB.out | apply below_alloc | apply pw_below_drewN | apply below_drew1) | exact HB.out)⟩⟩
        case round =>
          clear H'
          try clear c1
          try clear p2
          try clear c3
          try clear c5
          try clear c6
          try clear c8
          try clear c10
          try clear c15
          try clear p2
          obtain ⟨x7_2, x8_2, rfl, HA, HK2, HO_7, HB⟩ := hrel
          cases gk with
          | zero => exact absurd HA.out (by simp [spec_Replace.l0])
          | succ k2 =>
            have H := HA.out
            clear HA
            simp only [spec_Replace.l0] at H
            by_cases c20 : x8_2 < (x7_2.length : Int)
            · rw [if_pos c20] at H
              have c20b0 : decide (x8_2 < (x7_2.length : Int)) = true := decide_eq_true c20
              clear c20
              by_cases c21 : 0 ≤ x8_2
              · rw [if_pos c21] at H
                have c21b0 : decide (0 ≤ x8_2) = true := decide_eq_true c21
                clear c21
                replace H := Option.bind_eq_some_iff.mp H
                obtain ⟨t535, A220, H⟩ := H
                replace H : (spec_Replace.l0 k2 a1 a2 (x7_2.set (x8_2 : Int).toNat (⟨(rd_T47 x7_2 x8_2).f0, (rd_T47 x7_2 x8_2).f1, t535, (rd_T47 x7_2 x8_2).f3⟩ : S47)) (wrap64 (x8_2 + 1))) = some r := H
                have A22 := Aside0.mk A220
                clear A220
                obtain ⟨y536, hy536⟩ : ∃ y_ : List (S47), y_ = (x7_2.set (x8_2 : Int).toNat (⟨(rd_T47 x7_2 x8_2).f0, (rd_T47 x7_2 x8_2).f1, t535, (rd_T47 x7_2 x8_2).f3⟩ : S47)) := ⟨_, rfl⟩
                replace H : (spec_Replace.l0 k2 a1 a2 y536 (wrap64 (x8_2 + 1))) = some r := by first | (rw [hy536]; with_reducible exact H) | (have H2_ := (Option.bind_some _ _).symm.trans H; rw [hy536]; with_reducible exact H2_) | (have H2_ := (Option.bind_some _ _).symm.trans H; with_reducible exact H2_) | with_reducible exact H | (rw [hy536]; exact H) | exact H
                have Ny536 := Aside0.mk hy536
                clear hy536
                have H' := Aside0.mk H
                clear H
                obtain ⟨Ao24, co24, eo24⟩ := Kd.R_slice HO_7.out
                subst eo24
                have p534 : 0 ≤ (x8_2 : Int) := of_decide_eq_true (by first | (with_reducible assumption) | assumption)
                have q534 : x8_2 < (x7_2.length : Int) := of_decide_eq_true (by first | (with_reducible assumption) | assumption)
                obtain ⟨ad534, e534, hx534_0, hx534_1, hx534_2, hx534_3⟩ := at_T47 (Kd.R_reads' HO_7.out).2.2 x8_2 p534 q534
                cases e534
                replace p534 := eq_true p534
                replace q534 := eq_true q534
                go_wp2_with (first | ((with_reducible refine gate_callee (f := 69) rfl ?_); refine goesL_ (some 47) rfl rfl Tryd.func69 (by kernel_rfl) rfl #[.string ((rd_T47 x7_2 x8_2).f2), .string a1, .string a2] rfl (by (try simp only [List.map_toArray, List.map_cons, List.map_nil]); first | done | rfl | (simp only [List.length_drop, List.length_take]; rfl)) ?_; (with_reducible refine (spec_l10Swap.calls k2 ((rd_T47 x7_2 x8_2).f2) a1 a2 t535 _ A22.out).mono ?_); rintro e w25 ⟨rfl, hb⟩; refine ⟨_, rfl, ?_⟩; have n0_ := Aside0.mk (Kd.R_below (by (with_reducible repeat (first | apply Kd.R_alloc | apply Kd.R_drewN | apply Kd.R_drew)); exact HO_7.out) hb); have n1_ := Aside0.mk (below_step (by repeat (first | (with_reducible first | exact HB.out | apply below_alloc | apply pw_below_drewN | apply below_drew1) | exact HB.out)) hb); clear HO_7; clear HB; have HO_7 := n0_; have HB := n1_; clear n0_ n1_; (try clear hb); (try clear hb2); (try clear hk); (try clear hi); have p23 : 0 ≤ (x8_2 : Int) := of_decide_eq_true (by first | (with_reducible assumption) | assumption); have q23 : (x8_2 : Int) < ((x7_2.length : Int) : Int) := of_decide_eq_true (by first | (with_reducible assumption) | assumption); obtain ⟨go23, co23, eo23, gb23, gl23, cl23, HG23⟩ := Kd.R_form HO_7.out (by omega); (first | cases eo23 | (injection eo23 with ea_ en_ ec_; (first | subst ea_ | (injection ea_ with ea_; subst ea_)); subst ec_; clear en_)); have GB23 := Aside0.mk gb23; have GG23 := Aside0.mk HG23; clear gb23 gl23 HG23; (first | simp only [add_plain] at hx534_0 | skip); (first | simp only [add_plain] at hx534_1 | skip); (first | simp only [add_plain] at hx534_2 | skip); (first | simp only [add_plain] at hx534_3 | skip); obtain ⟨ce23, hcl23, hM23, hcc23, hfr23⟩ := Kd.R_elem HO_7.out z47 (x8_2 : Int) p23 q23; obtain rfl := k47_openM hM23; have hx23_0 : w25.cell? ⟨go23, (x8_2 : Int).toNat * 4, none⟩ = some (.string ((rd_T47 x7_2 x8_2).f0)) := hcc23 0 _ rfl; have hx23_1 : w25.cell? ⟨go23, (x8_2 : Int).toNat * 4 + 1, none⟩ = some (.int .i64 ((rd_T47 x7_2 x8_2).f1)) := hcc23 1 _ rfl; have hx23_2 : w25.cell? ⟨go23, (x8_2 : Int).toNat * 4 + 2, none⟩ = some (.string ((rd_T47 x7_2 x8_2).f2)) := hcc23 2 _ rfl; have hx23_3 : w25.cell? ⟨go23, (x8_2 : Int).toNat * 4 + 3, none⟩ = some (.bool ((rd_T47 x7_2 x8_2).f3)) := hcc23 3 _ rfl; have hf23_0 : w25.frozen? ⟨go23, (x8_2 : Int).toNat * 4, none⟩ = false := hfr23 0; have hf23_1 : w25.frozen? ⟨go23, (x8_2 : Int).toNat * 4 + 1, none⟩ = false := hfr23 1; have hf23_2 : w25.frozen? ⟨go23, (x8_2 : Int).toNat * 4 + 2, none⟩ = false := hfr23 2; have hf23_3 : w25.frozen? ⟨go23, (x8_2 : Int).toNat * 4 + 3, none⟩ = false := hfr23 3; clear hcl23 hcc23 hfr23 hM23; replace p23 := eq_true p23; replace q23 := eq_true q23; have HX26 := Aside0.mk (show Kd.R k47 47 w25 w.heap.size (fun _ => True) (.slice (some ⟨go23, 0, none⟩) x7_2.length co24) x7_2 from (by (with_reducible repeat (first | apply Kd.R_alloc | apply Kd.R_drewN | apply Kd.R_drew)); exact HO_7.out)); obtain ⟨ce26, hcl26, hM26, hcc26, hfr26⟩ := Kd.R_elem HX26.out z47 (x8_2 : Int) (of_decide_eq_true (by first | (with_reducible assumption) | assumption)) (by have h_ : (x8_2 : Int) < ((x7_2.length : Int) : Int) := of_decide_eq_true (by first | (with_reducible assumption) | assumption); first | exact h_ | (have e_ := (Kd.R_reads' HO_7.out).1; omega) | simpa using h_); obtain rfl := k47_openM hM26; have HP26 := Kd.R_seg HX26.out (x8_2 : Int) (of_decide_eq_true (by first | (with_reducible assumption) | assumption)) (by have h_ : (x8_2 : Int) < ((x7_2.length : Int) : Int) := of_decide_eq_true (by first | (with_reducible assumption) | assumption); first | exact h_ | (have e_ := (Kd.R_reads' HO_7.out).1; omega) | simpa using h_) (seg := [.string t535]) (j := 2) hcl26 hcc26 (show 3 ≤ 4 from by decide) (x' := (⟨(rd_T47 x7_2 x8_2).f0, (rd_T47 x7_2 x8_2).f1, t535, (rd_T47 x7_2 x8_2).f3⟩ : S47)) (k47_mkM _ _ _ (⟨(rd_T47 x7_2 x8_2).f0, (rd_T47 x7_2 x8_2).f1, t535, (rd_T47 x7_2 x8_2).f3⟩ : S47) ) (fun _ hk => hk); have hx26_2 := hcc26 2 _ rfl; (try simp only [show (k47).sz = 4 from rfl, Nat.mul_one, Nat.add_zero] at hx26_2); have hf26_2 := hfr26 2; (try simp only [show (k47).sz = 4 from rfl, Nat.mul_one, Nat.add_zero] at hf26_2); clear hcl26 hcc26 hfr26 hM26) | ((with_reducible refine gate_store (t := 9) (p := 49) rfl ?_); refine store_event (t := 9) (p := 49) (v := ?vo_w27) (w1 := (w25.setCell ⟨go23, (x8_2 : Int).toNat * 4 + 2, none⟩ (.string t535))) ?hg ?ho ?hn ?hr ?_; (case ho => rfl); (case hg => rfl); (case hn => rfl); (case hr => first | (go_simp; done) | (go_simp; rfl)); intro w27 hw; have hg : w25.grownBy w27 (some go23) := (by rw [hw]; exact HP26.2); have hp_ : Kd.R k47 47 w27 w.heap.size (fun _ => True) (.slice (some ⟨go23, 0, none⟩) x7_2.length co24) y536 := (by rw [hw, Ny536.out]; exact HP26.1); clear HP26; have n0_ := Aside0.mk (hp_); have n1_ := Aside0.mk ((by rw [hw]; exact below_set (HB.out) GB23.out : Below w.heap.size w w27)); clear HO_7; clear HB; have HO_7 := n0_; have HB := n1_; clear n0_ n1_; clear hg hw hp_))
                go_roundg k2
                case measure => have := HJ3.out; have := HK2.out; omega
                case rel => exact ⟨(y536), (wrap64 (x8_2 + 1)), (by first | rfl | (simp; done) | (simp [*]; done)), H', ⟨by have := HJ3.out; have := HK2.out; omega⟩, ⟨by (with_reducible repeat (first | apply Kd.R_alloc | apply Kd.R_drewN | apply Kd.R_drew)); exact HO_7.out⟩, ⟨by repeat (first | (with_reducible first | exact HB.out | apply below_alloc | apply pw_below_drewN | apply below_drew1) | exact HB.out)⟩⟩
              · rw [if_neg c21] at H
                exact absurd H (by simp)
            · rw [if_neg c20] at H
              have c20b0 : decide (x8_2 < (x7_2.length : Int)) = false := decide_eq_false c20
              clear c20
              obtain rfl := Option.some.inj H
              obtain ⟨Ao28, co28, eo28⟩ := Kd.R_slice HO_7.out
              subst eo28
              go_wp2
              go_ret
              exact ⟨_, by first | rfl | (simp [errW_none, errW_some] <;> rfl) | (simp [*, errW_none, errW_some] <;> rfl), by (with_reducible repeat (first | apply Kd.R_alloc | apply Kd.R_drewN | apply Kd.R_drew)); exact HO_7.out, by repeat (first | (with_reducible first | exact HB.out | apply below_alloc | apply pw_below_drewN | apply below_drew1) | exact HB.out)⟩
def strings_IndexByte.f (a0 : ByteArray) (a1 : Int) : Option Int := some (Lib.indexByte a0.data.toList a1.toNat.toUInt8)
theorem strings_IndexByte.calls (a0 : ByteArray) (a1 : Int) (r : Int) (w : World) (h : strings_IndexByte.f a0 a1 = some r) :
    Calls Tryd.prog 111 #[.string a0, .int .u8 a1] w fun e w' => e = .returned (.int .i64 r) ∧ Drawn0 w w' := by
  obtain rfl := Option.some.inj h
  exact (Tryd.strings_IndexByte a0 a1 w).mono fun e w' ⟨he, hw⟩ => ⟨he, hw ▸ Drawn0.refl _⟩
end Go.Proofs.YtgghefjkkidaoaaDoor.P
end

section
namespace Go.Proofs.YtgghefjkkidaoaaDoor.P
open Go.RowKit Go.Proofs.YtgghefjkkidaoaaDoorW.PrintWords Go.Proofs.YtgghefjkkidaoaaDoorW.PrintLast Go.Proofs.YtgghefjkkidaoaaDoorW.PrintMore Go.Proofs.YtgghefjkkidaoaaDoorM
attribute [local go_sem] max2_int min2_int max_two min_two max_three min_three max_four min_four   -- for this text's walks alone
set_option linter.unusedVariables false
set_option linter.unusedSimpArgs false
def impl_ReadWord32.l0 : Nat → ByteArray → Int → Int → Int → Option (Int × Bool)
  | 0, _, _, _, _ => none
  | k + 1, x0, x4, x11, x12 => if x12 < x11 then (if 0 ≤ x12 then (if x12 < (x0.size : Int) then ((strings_IndexByte.f (⟨#[48, 49, 50, 51, 52, 53, 54, 55, 56, 57, 97, 98, 99, 100, 102, 103, 104, 105, 106, 107, 108, 109, 110, 112, 113, 114, 115, 118, 119, 120, 121, 122]⟩ : ByteArray) (bt x0 x12)).bind fun t537 => (if t537 < 0 then (some (0, false)) else (if x12 = 0 then (if t537 > 15 then (some (0, false)) else (impl_ReadWord32.l0 k x0 (Go.bits .or .u64 (IntKind.u64.wrap (x4 * 32)) (IntKind.u64.wrap (t537))) x11 (wrap64 (x12 + 1)))) else (impl_ReadWord32.l0 k x0 (Go.bits .or .u64 (IntKind.u64.wrap (x4 * 32)) (IntKind.u64.wrap (t537))) x11 (wrap64 (x12 + 1)))))) else (none)) else (none)) else (some (x4, true))
def impl_ReadWord32.f (k : Nat) (a0 : ByteArray) : Option (Int × Bool) := if (a0.size : Int) = 13 then (impl_ReadWord32.l0 k a0 0 (a0.size : Int) 0) else (some (0, false))
theorem impl_ReadWord32.mono_l : ∀ k, (∀ y0 y1 y2 y3, LeO (impl_ReadWord32.l0 k y0 y1 y2 y3) (impl_ReadWord32.l0 (k + 1) y0 y1 y2 y3))
  | 0 => fun _ _ _ _ r h => by simp [impl_ReadWord32.l0] at h
  | k + 1 => by
    have ih0 := impl_ReadWord32.mono_l k
    · intro y0 y1 y2 y3
      unfold impl_ReadWord32.l0
      repeat' first
      | (with_reducible exact ih0 _ _ _ _)
      | (with_reducible exact LeO.refl _)
      | (with_reducible exact LeO.none _)
      | (with_reducible refine LeO.ite ?_ ?_)
      | (with_reducible refine LeO.bind ?_ (fun _ => ?_))
      | exact ih0 _ _ _ _
      | exact LeO.none _
      | refine LeO.ite ?_ ?_
      | refine LeO.bind ?_ (fun _ => ?_)
theorem impl_ReadWord32.mono : ∀ a0 k, LeO (impl_ReadWord32.f k a0) (impl_ReadWord32.f (k + 1) a0) := by
  intro a0 k
  have ih0 := impl_ReadWord32.mono_l k
  unfold impl_ReadWord32.f
  repeat' first
      | (with_reducible exact ih0 _ _ _ _)
      | (with_reducible exact LeO.refl _)
      | (with_reducible exact LeO.none _)
      | (with_reducible refine LeO.ite ?_ ?_)
      | (with_reducible refine LeO.bind ?_ (fun _ => ?_))
      | exact ih0 _ _ _ _
      | exact LeO.none _
      | refine LeO.ite ?_ ?_
      | refine LeO.bind ?_ (fun _ => ?_)
set_option maxHeartbeats 8000000 in
set_option maxRecDepth 100000 in
theorem impl_ReadWord32.calls (k : Nat) (a0 : ByteArray) (r1 : Int) (r2 : Bool) (w : World) (h : impl_ReadWord32.f k a0 = some (r1, r2)) :
    Calls Tryd.prog 92 #[.string a0] w fun e w' => e = .returned (.tuple #[.int .u64 r1, .bool r2]) ∧ Drawn0 w w' := by
  have H : (if (a0.size : Int) = 13 then (impl_ReadWord32.l0 k a0 0 (a0.size : Int) 0) else (some (0, false))) = some (r1, r2) := h
  clear h
  by_cases c2 : (a0.size : Int) = 13
  · rw [if_pos c2] at H
    have c2b0 : ((a0.size : Int) == 13) = true := beq_iff_eq.mpr c2
    have c2b1 : ((a0.size : Int) != 13) = false := bne_eq_false_iff_eq.mpr c2
    clear c2
    have H' := Aside0.mk H
    clear H
    go_enter Tryd.func92, Tryd.ntmps92
    go_wp2
    go_loopg [4, 12] k (fun kq v4 v12 w' => ∃ (x4_1 : Int) (x12_1 : Int), v4 = .int .u64 x4_1 ∧ v12 = .int .i64 x12_1 ∧ Aside0 (impl_ReadWord32.l0 kq a0 x4_1 (a0.size : Int) x12_1 = some (r1, r2)) ∧ Aside0 (kq ≤ k) ∧ Drawn0 w w')
    case atStart => exact ⟨(0), (0), (by first | rfl | (simp; done) | (simp [*]; done)), (by first | rfl | (simp; done) | (simp [*]; done)), H', ⟨Nat.le_refl _⟩, by repeat (first | exact Drawn0.refl _ | apply Drawn0.step)⟩
    case round =>
      clear H'
      try clear c2
      try clear c2b0
      try clear c2b1
      try clear p2
      obtain ⟨x4_1, x12_1, rfl, rfl, HA, HK1, ⟨m1, rfl⟩⟩ := hrel
      cases gk with
      | zero => exact absurd HA.out (by simp [impl_ReadWord32.l0])
      | succ k1 =>
        have H := HA.out
        clear HA
        simp only [impl_ReadWord32.l0] at H
        by_cases c3 : x12_1 < (a0.size : Int)
        · rw [if_pos c3] at H
          have c3b0 : decide (x12_1 < (a0.size : Int)) = true := decide_eq_true c3
          clear c3
          by_cases c4 : 0 ≤ x12_1
          · rw [if_pos c4] at H
            have c4b0 : decide (0 ≤ x12_1) = true := decide_eq_true c4
            clear c4
            by_cases c5 : x12_1 < (a0.size : Int)
            · rw [if_pos c5] at H
              have c5b0 : decide (x12_1 < (a0.size : Int)) = true := decide_eq_true c5
              clear c5
              replace H := Option.bind_eq_some_iff.mp H
              obtain ⟨t537, A70, H⟩ := H
              replace H : (if t537 < 0 then (some (0, false)) else (if x12_1 = 0 then (if t537 > 15 then (some (0, false)) else (impl_ReadWord32.l0 k1 a0 (Go.bits .or .u64 (IntKind.u64.wrap (x4_1 * 32)) (IntKind.u64.wrap (t537))) (a0.size : Int) (wrap64 (x12_1 + 1)))) else (impl_ReadWord32.l0 k1 a0 (Go.bits .or .u64 (IntKind.u64.wrap (x4_1 * 32)) (IntKind.u64.wrap (t537))) (a0.size : Int) (wrap64 (x12_1 + 1))))) = some (r1, r2) := H
              have A7 := Aside0.mk A70
              clear A70
              by_cases c8 : t537 < 0
              · rw [if_pos c8] at H
                have c8b0 : decide (t537 < 0) = true := decide_eq_true c8
                clear c8
                simp only [Option.some.injEq, Prod.mk.injEq] at H
                obtain ⟨rfl, rfl⟩ := H
                have p6 : 0 ≤ (x12_1 : Int) := of_decide_eq_true (by first | (with_reducible assumption) | assumption)
                have q6 : x12_1 < (a0.size : Int) := of_decide_eq_true (by first | (with_reducible assumption) | assumption)
                have hx6 := bt_at a0 x12_1
                replace p6 := eq_true p6
                replace q6 := eq_true q6
                go_wp2_with (first | ((with_reducible refine gate_callee (f := 111) rfl ?_); refine goesL_ (some 18) rfl rfl Tryd.func111 (by kernel_rfl) rfl #[.string (⟨#[48, 49, 50, 51, 52, 53, 54, 55, 56, 57, 97, 98, 99, 100, 102, 103, 104, 105, 106, 107, 108, 109, 110, 112, 113, 114, 115, 118, 119, 120, 121, 122]⟩ : ByteArray), .int .u8 (bt a0 x12_1)] rfl (by (try simp only [List.map_toArray, List.map_cons, List.map_nil]); first | done | rfl | (simp only [List.length_drop, List.length_take]; rfl)) ?_; (with_reducible refine (strings_IndexByte.calls (⟨#[48, 49, 50, 51, 52, 53, 54, 55, 56, 57, 97, 98, 99, 100, 102, 103, 104, 105, 106, 107, 108, 109, 110, 112, 113, 114, 115, 118, 119, 120, 121, 122]⟩ : ByteArray) (bt a0 x12_1) t537 _ A7.out).mono ?_); rintro e w' ⟨rfl, ⟨nd, rfl⟩⟩; refine ⟨_, rfl, ?_⟩))
                go_ret2
                exact ⟨by first | rfl | (simp; done) | (simp [*]; done), by repeat (first | exact Drawn0.refl _ | apply Drawn0.step)⟩
              · rw [if_neg c8] at H
                have c8b0 : decide (t537 < 0) = false := decide_eq_false c8
                clear c8
                by_cases c9 : x12_1 = 0
                · rw [if_pos c9] at H
                  have c9b0 : (x12_1 == 0) = true := beq_iff_eq.mpr c9
                  have c9b1 : (x12_1 != 0) = false := bne_eq_false_iff_eq.mpr c9
                  clear c9
                  by_cases c10 : t537 > 15
                  · rw [if_pos c10] at H
                    have c10b0 : decide (15 < t537) = true := decide_eq_true c10
                    clear c10
                    simp only [Option.some.injEq, Prod.mk.injEq] at H
                    obtain ⟨rfl, rfl⟩ := H
                    have p6 : 0 ≤ (x12_1 : Int) := of_decide_eq_true (by first | (with_reducible assumption) | assumption)
                    have q6 : x12_1 < (a0.size : Int) := of_decide_eq_true (by first | (with_reducible assumption) | assumption)
                    have hx6 := bt_at a0 x12_1
                    replace p6 := eq_true p6
                    replace q6 := eq_true q6
                    go_wp2_with (first | ((with_reducible refine gate_callee (f := 111) rfl ?_); refine goesL_ (some 18) rfl rfl Tryd.func111 (by kernel_rfl) rfl #[.string (⟨#[48, 49, 50, 51, 52, 53, 54, 55, 56, 57, 97, 98, 99, 100, 102, 103, 104, 105, 106, 107, 108, 109, 110, 112, 113, 114, 115, 118, 119, 120, 121, 122]⟩ : ByteArray), .int .u8 (bt a0 x12_1)] rfl (by (try simp only [List.map_toArray, List.map_cons, List.map_nil]); first | done | rfl | (simp only [List.length_drop, List.length_take]; rfl)) ?_; (with_reducible refine (strings_IndexByte.calls (⟨#[48, 49, 50, 51, 52, 53, 54, 55, 56, 57, 97, 98, 99, 100, 102, 103, 104, 105, 106, 107, 108, 109, 110, 112, 113, 114, 115, 118, 119, 120, 121, 122]⟩ : ByteArray) (bt a0 x12_1) t537 _ A7.out).mono ?_); rintro e w' ⟨rfl, ⟨nd, rfl⟩⟩; refine ⟨_, rfl, ?_⟩))
                    go_ret2
                    exact ⟨by first | rfl | (simp; done) | (simp [*]; done), by repeat (first | exact Drawn0.refl _ | apply Drawn0.step)⟩
                  · rw [if_neg c10] at H
                    have c10b0 : decide (15 < t537) = false := decide_eq_false c10
                    clear c10
                    have H' := Aside0.mk H
                    clear H
                    have p6 : 0 ≤ (x12_1 : Int) := of_decide_eq_true (by first | (with_reducible assumption) | assumption)
                    have q6 : x12_1 < (a0.size : Int) := of_decide_eq_true (by first | (with_reducible assumption) | assumption)
                    have hx6 := bt_at a0 x12_1
                    replace p6 := eq_true p6
                    replace q6 := eq_true q6
                    go_wp2_with (first | ((with_reducible refine gate_callee (f := 111) rfl ?_); refine goesL_ (some 18) rfl rfl Tryd.func111 (by kernel_rfl) rfl #[.string (⟨#[48, 49, 50, 51, 52, 53, 54, 55, 56, 57, 97, 98, 99, 100, 102, 103, 104, 105, 106, 107, 108, 109, 110, 112, 113, 114, 115, 118, 119, 120, 121, 122]⟩ : ByteArray), .int .u8 (bt a0 x12_1)] rfl (by (try simp only [List.map_toArray, List.map_cons, List.map_nil]); first | done | rfl | (simp only [List.length_drop, List.length_take]; rfl)) ?_; (with_reducible refine (strings_IndexByte.calls (⟨#[48, 49, 50, 51, 52, 53, 54, 55, 56, 57, 97, 98, 99, 100, 102, 103, 104, 105, 106, 107, 108, 109, 110, 112, 113, 114, 115, 118, 119, 120, 121, 122]⟩ : ByteArray) (bt a0 x12_1) t537 _ A7.out).mono ?_); rintro e w' ⟨rfl, ⟨nd, rfl⟩⟩; refine ⟨_, rfl, ?_⟩))
                    go_roundg k1
                    case measure => have := HK1.out; omega
                    case rel => exact ⟨(Go.bits .or .u64 (IntKind.u64.wrap (x4_1 * 32)) (IntKind.u64.wrap (t537))), (wrap64 (x12_1 + 1)), (by first | rfl | (simp; done) | (simp [*]; done)), (by first | rfl | (simp; done) | (simp [*]; done)), H', ⟨by have := HK1.out; omega⟩, by repeat (first | exact Drawn0.refl _ | apply Drawn0.step)⟩
                · rw [if_neg c9] at H
                  have c9b0 : (x12_1 == 0) = false := beq_eq_false_iff_ne.mpr c9
                  have c9b1 : (x12_1 != 0) = true := bne_iff_ne.mpr c9
                  have H' := Aside0.mk H
                  clear H
                  have p6 : 0 ≤ (x12_1 : Int) := of_decide_eq_true (by first | (with_reducible assumption) | assumption)
                  have q6 : x12_1 < (a0.size : Int) := of_decide_eq_true (by first | (with_reducible assumption) | assumption)
                  have hx6 := bt_at a0 x12_1
                  replace p6 := eq_true p6
                  replace q6 := eq_true q6
                  go_wp2_with (first | ((with_reducible refine gate_callee (f := 111) rfl ?_); refine goesL_ (some 18) rfl rfl Tryd.func111 (by kernel_rfl) rfl #[.string (⟨#[48, 49, 50, 51, 52, 53, 54, 55, 56, 57, 97, 98, 99, 100, 102, 103, 104, 105, 106, 107, 108, 109, 110, 112, 113, 114, 115, 118, 119, 120, 121, 122]⟩ : ByteArray), .int .u8 (bt a0 x12_1)] rfl (by (try simp only [List.map_toArray, List.map_cons, List.map_nil]); first | done | rfl | (simp only [List.length_drop, List.length_take]; rfl)) ?_; (with_reducible refine (strings_IndexByte.calls (⟨#[48, 49, 50, 51, 52, 53, 54, 55, 56, 57, 97, 98, 99, 100, 102, 103, 104, 105, 106, 107, 108, 109, 110, 112, 113, 114, 115, 118, 119, 120, 121, 122]⟩ : ByteArray) (bt a0 x12_1) t537 _ A7.out).mono ?_); rintro e w' ⟨rfl, ⟨nd, rfl⟩⟩; refine ⟨_, rfl, ?_⟩))
                  go_roundg k1
                  case measure => have := HK1.out; omega
                  case rel => exact ⟨(Go.bits .or .u64 (IntKind.u64.wrap (x4_1 * 32)) (IntKind.u64.wrap (t537))), (wrap64 (x12_1 + 1)), (by first | rfl | (simp; done) | (simp [*]; done)), (by first | rfl | (simp; done) | (simp [*]; done)), H', ⟨by have := HK1.out; omega⟩, by repeat (first | exact Drawn0.refl _ | apply Drawn0.step)⟩
            · rw [if_neg c5] at H
              exact absurd H (by simp)
          · rw [if_neg c4] at H
            exact absurd H (by simp)
        · rw [if_neg c3] at H
          have c3b0 : decide (x12_1 < (a0.size : Int)) = false := decide_eq_false c3
          clear c3
          simp only [Option.some.injEq, Prod.mk.injEq] at H
          obtain ⟨rfl, rfl⟩ := H
          go_wp2
          go_ret2
          exact ⟨by first | rfl | (simp; done) | (simp [*]; done), by repeat (first | exact Drawn0.refl _ | apply Drawn0.step)⟩
  · rw [if_neg c2] at H
    have c2b0 : ((a0.size : Int) == 13) = false := beq_eq_false_iff_ne.mpr c2
    have c2b1 : ((a0.size : Int) != 13) = true := bne_iff_ne.mpr c2
    simp only [Option.some.injEq, Prod.mk.injEq] at H
    obtain ⟨rfl, rfl⟩ := H
    go_enter Tryd.func92, Tryd.ntmps92
    go_wp2
    go_ret2
    exact ⟨by first | rfl | (simp; done) | (simp [*]; done), by repeat (first | exact Drawn0.refl _ | apply Drawn0.step)⟩
def impl_AddressOk.f (k : Nat) (a0 : ByteArray) : Option (Bool) := if (a0.size : Int) < 14 then (some false) else (if 13 < (a0.size : Int) then (if (bt a0 13) = 45 then (if 14 ≤ (a0.size : Int) then ((impl_NameOk.f k (a0.extract 14 a0.size)).bind fun t538 => (if t538 = true then (if 0 ≤ 13 then (if 13 ≤ (a0.size : Int) then ((impl_ReadWord32.f k (a0.extract 0 13)).bind fun bt539 => (some bt539.2)) else (none)) else (none)) else (some false))) else (none)) else (some false)) else (none))
theorem impl_AddressOk.mono : ∀ a0 k, LeO (impl_AddressOk.f k a0) (impl_AddressOk.f (k + 1) a0) := by
  intro a0 k
  unfold impl_AddressOk.f
  repeat' first
      | (with_reducible exact impl_NameOk.mono _ _)
      | (with_reducible exact impl_ReadWord32.mono _ _)
      | (with_reducible exact LeO.refl _)
      | (with_reducible exact LeO.none _)
      | (with_reducible refine LeO.ite ?_ ?_)
      | (with_reducible refine LeO.bind ?_ (fun _ => ?_))
      | exact impl_NameOk.mono _ _
      | exact impl_ReadWord32.mono _ _
      | exact LeO.none _
      | refine LeO.ite ?_ ?_
      | refine LeO.bind ?_ (fun _ => ?_)
set_option maxHeartbeats 8000000 in
set_option maxRecDepth 100000 in
theorem impl_AddressOk.calls (k : Nat) (a0 : ByteArray) (r : Bool) (w : World) (h : impl_AddressOk.f k a0 = some r) :
    Calls Tryd.prog 70 #[.string a0] w fun e w' => e = .returned (.bool r) ∧ Drawn0 w w' := by
  have H : (if (a0.size : Int) < 14 then (some false) else (if 13 < (a0.size : Int) then (if (bt a0 13) = 45 then (if 14 ≤ (a0.size : Int) then ((impl_NameOk.f k (a0.extract 14 a0.size)).bind fun t538 => (if t538 = true then (if 0 ≤ 13 then (if 13 ≤ (a0.size : Int) then ((impl_ReadWord32.f k (a0.extract 0 13)).bind fun bt539 => (some bt539.2)) else (none)) else (none)) else (some false))) else (none)) else (some false)) else (none))) = some r := h
  clear h
  by_cases c2 : (a0.size : Int) < 14
  · rw [if_pos c2] at H
    have c2b0 : decide ((a0.size : Int) < 14) = true := decide_eq_true c2
    have c2b1 : decide (a0.size < 14) = true := decide_eq_true (by omega)
    clear c2
    obtain rfl := Option.some.inj H
    go_enter Tryd.func70, Tryd.ntmps70
    go_wp2
    go_ret
    exact ⟨by first | rfl | (simp; done) | (simp [*]; done), by repeat (first | exact Drawn0.refl _ | apply Drawn0.step)⟩
  · rw [if_neg c2] at H
    have c2b0 : decide ((a0.size : Int) < 14) = false := decide_eq_false c2
    have c2b1 : decide (a0.size < 14) = false := decide_eq_false (by omega)
    clear c2
    by_cases c3 : 13 < (a0.size : Int)
    · rw [if_pos c3] at H
      have c3b0 : decide (13 < (a0.size : Int)) = true := decide_eq_true c3
      have c3b1 : decide (13 < a0.size) = true := decide_eq_true (by omega)
      clear c3
      by_cases c5 : (bt a0 13) = 45
      · rw [if_pos c5] at H
        have c5b0 : ((bt a0 13) == 45) = true := beq_iff_eq.mpr c5
        have c5b1 : ((bt a0 13) != 45) = false := bne_eq_false_iff_eq.mpr c5
        clear c5
        by_cases c6 : 14 ≤ (a0.size : Int)
        · rw [if_pos c6] at H
          have c6b0 := eq_true c6
          have c6b1 : decide (14 ≤ (a0.size : Int)) = true := decide_eq_true c6
          clear c6
          replace H := Option.bind_eq_some_iff.mp H
          obtain ⟨t538, A70, H⟩ := H
          replace H : (if t538 = true then (if 0 ≤ 13 then (if 13 ≤ (a0.size : Int) then ((impl_ReadWord32.f k (a0.extract 0 13)).bind fun bt539 => (some bt539.2)) else (none)) else (none)) else (some false)) = some r := H
          have A7 := Aside0.mk A70
          clear A70
          by_cases c8 : t538 = true
          · subst c8
            have H1 : (if 0 ≤ 13 then (if 13 ≤ (a0.size : Int) then ((impl_ReadWord32.f k (a0.extract 0 13)).bind fun bt539 => (some bt539.2)) else (none)) else (none)) = some r := by rw [if_pos rfl] at H; exact H
            clear H
            have H := H1
            clear H1
            by_cases c9 : 0 ≤ 13
            · rw [if_pos c9] at H
              have c9b0 := eq_true c9
              have c9b1 : decide (0 ≤ 13) = true := decide_eq_true c9
              clear c9
              by_cases c10 : 13 ≤ (a0.size : Int)
              · rw [if_pos c10] at H
                have c10b0 := eq_true c10
                have c10b1 : decide (13 ≤ (a0.size : Int)) = true := decide_eq_true c10
                clear c10
                replace H := Option.bind_eq_some_iff.mp H
                obtain ⟨⟨t539, t540⟩, A110, H⟩ := H
                replace H : (some t540) = some r := H
                have A11 := Aside0.mk A110
                clear A110
                obtain rfl := Option.some.inj H
                have p4 : 0 ≤ (13 : Int) := (by omega)
                have q4 : 13 < a0.size := (by have : (13 : Int) < (a0.size : Int) := of_decide_eq_true (by first | (with_reducible assumption) | assumption); omega)
                have hx4 : ∀ h : 13 < a0.size, ((a0[13]'h).toNat : Int) = bt a0 13 := bt_at a0 13
                clear p4
                have qi4 : (13 < (a0.size : Int)) = True := eq_true (of_decide_eq_true (by first | (with_reducible assumption) | assumption))
                replace q4 := eq_true q4
                go_enter Tryd.func70, Tryd.ntmps70
                go_wp2_with (first | (go_at_call 91; (with_reducible refine (impl_NameOk.calls k (a0.extract 14 a0.size) true _ A7.out).mono ?_); rintro e w' ⟨rfl, ⟨nd, rfl⟩⟩) | ((with_reducible refine gate_callee (f := 92) rfl ?_); refine goesL_ (some 22) rfl rfl Tryd.func92 (by kernel_rfl) rfl #[.string (a0.extract 0 13)] rfl (by (try simp only [List.map_toArray, List.map_cons, List.map_nil]); first | done | rfl | (simp only [List.length_drop, List.length_take]; rfl)) ?_; (with_reducible refine (impl_ReadWord32.calls k (a0.extract 0 13) t539 t540 _ A11.out).mono ?_); rintro e w' ⟨rfl, ⟨nd, rfl⟩⟩; refine ⟨_, rfl, ?_⟩))
                go_ret
                exact ⟨by first | rfl | (simp; done) | (simp [*]; done), by repeat (first | exact Drawn0.refl _ | apply Drawn0.step)⟩
              · rw [if_neg c10] at H
                exact absurd H (by simp)
            · rw [if_neg c9] at H
              exact absurd H (by simp)
          · replace c8 := Bool.eq_false_iff.mpr c8
            subst c8
            have H1 : (some false) = some r := by rw [if_neg (show ¬ (false = true) by decide)] at H; exact H
            clear H
            have H := H1
            clear H1
            obtain rfl := Option.some.inj H
            have p4 : 0 ≤ (13 : Int) := (by omega)
            have q4 : 13 < a0.size := (by have : (13 : Int) < (a0.size : Int) := of_decide_eq_true (by first | (with_reducible assumption) | assumption); omega)
            have hx4 : ∀ h : 13 < a0.size, ((a0[13]'h).toNat : Int) = bt a0 13 := bt_at a0 13
            clear p4
            have qi4 : (13 < (a0.size : Int)) = True := eq_true (of_decide_eq_true (by first | (with_reducible assumption) | assumption))
            replace q4 := eq_true q4
            go_enter Tryd.func70, Tryd.ntmps70
            go_wp2_with (first | (go_at_call 91; (with_reducible refine (impl_NameOk.calls k (a0.extract 14 a0.size) false _ A7.out).mono ?_); rintro e w' ⟨rfl, ⟨nd, rfl⟩⟩))
            go_ret
            exact ⟨by first | rfl | (simp; done) | (simp [*]; done), by repeat (first | exact Drawn0.refl _ | apply Drawn0.step)⟩
        · rw [if_neg c6] at H
          exact absurd H (by simp)
      · rw [if_neg c5] at H
        have c5b0 : ((bt a0 13) == 45) = false := beq_eq_false_iff_ne.mpr c5
        have c5b1 : ((bt a0 13) != 45) = true := bne_iff_ne.mpr c5
        obtain rfl := Option.some.inj H
        have p4 : 0 ≤ (13 : Int) := (by omega)
        have q4 : 13 < a0.size := (by have : (13 : Int) < (a0.size : Int) := of_decide_eq_true (by first | (with_reducible assumption) | assumption); omega)
        have hx4 : ∀ h : 13 < a0.size, ((a0[13]'h).toNat : Int) = bt a0 13 := bt_at a0 13
        clear p4
        have qi4 : (13 < (a0.size : Int)) = True := eq_true (of_decide_eq_true (by first | (with_reducible assumption) | assumption))
        replace q4 := eq_true q4
        go_enter Tryd.func70, Tryd.ntmps70
        go_wp2
        go_ret
        exact ⟨by first | rfl | (simp; done) | (simp [*]; done), by repeat (first | exact Drawn0.refl _ | apply Drawn0.step)⟩
    · rw [if_neg c3] at H
      exact absurd H (by simp)
def strings_ReplaceAll.f (a0 a1 a2 : ByteArray) : Option ByteArray := if a0.size < 4294967281 ∧ 1 ≤ a1.size ∧ a0.size + Lib.countB a0 a1 * a2.size ≤ 140737488355328 then some ⟨(Lib.replaceAll a0.data.toList a1.data.toList a2.data.toList).toArray⟩ else none
theorem strings_ReplaceAll.calls (a0 a1 a2 : ByteArray) (r : ByteArray) (w : World) (hE : EnvW w) (h : strings_ReplaceAll.f a0 a1 a2 = some r) :
    Calls Tryd.prog 71 #[.string a0, .string a1, .string a2] w fun e w' => e = .returned (.string r) ∧ Below w.heap.size w w' := by
  unfold strings_ReplaceAll.f at h
  split at h
  · rename_i hs
    obtain ⟨m, hm⟩ := hE.out
    obtain rfl := Option.some.inj h
    exact Tryd.strings_ReplaceAll a0 a1 a2 m w hs.1 hm hs.2.1 hs.2.2
  · cases h
end Go.Proofs.YtgghefjkkidaoaaDoor.P
end

section
namespace Go.Proofs.YtgghefjkkidaoaaDoor.P
open Go.RowKit Go.Proofs.YtgghefjkkidaoaaDoorW.PrintWords Go.Proofs.YtgghefjkkidaoaaDoorW.PrintLast Go.Proofs.YtgghefjkkidaoaaDoorW.PrintMore Go.Proofs.YtgghefjkkidaoaaDoorM
attribute [local go_sem] max2_int min2_int max_two min_two max_three min_three max_four min_four   -- for this text's walks alone
set_option linter.unusedVariables false
set_option linter.unusedSimpArgs false
def impl_cloneTree.f (l0 : List S47) : Option (List S47) := if l0.length < 2932031007402 then some l0 else none
set_option maxHeartbeats 1000000 in
theorem impl_cloneTree.calls (A0 : Option Addr) (c0 : Nat) (l0 : List S47) (r : List S47) (w : World) (hr0 : Kd.C k47 w A0 l0.length l0) (hc0 : l0.length ≤ c0) (h : impl_cloneTree.f l0 = some r) :
    Calls Tryd.prog 59 #[.slice A0 l0.length c0] w fun e w' => ∃ v0_ : Value, e = .returned (v0_) ∧ Kd.R k47 47 w' w.heap.size (fun _ => True) v0_ r ∧ Below w.heap.size w w' := by
  unfold impl_cloneTree.f at h
  by_cases c2 : l0.length < 2932031007402
  · rw [if_pos c2] at h
    obtain rfl := Option.some.inj h
    have HR0 := Aside0.mk hr0
    have HC0 := Aside0.mk hc0
    have LM := Aside0.mk c2
    clear hr0 hc0 h c2
    go_enter Tryd.func59, Tryd.ntmps59
    go_wp2_with (first | ((with_reducible refine gate_builtin (b := .append) (xs := #[.const (.slice none 0 0), .tmp 3]) rfl ?_); refine Kd.R_append_rows k47 (w0 := w) w.heap.size rfl (.const (.slice none 0 0)) (.tmp 3) 25 47 (.agg #[(.string ⟨#[]⟩), (.int .i64 0), (.string ⟨#[]⟩), (.bool false)]) 48 rfl Tryd.underlying25 info47 rfl (by decide) (by omega) (.slice none 0 0) [] l0 _ _ _ (fun _ => True) (fun _ => False) rfl rfl (Kd.R_nil _ _ _ _ _) HR0.out (fun _ _ h => h) (fun _ h => h.elim) (fun _ _ => trivial) (Below.refl _ _) (Nat.le_refl _) (by have := LM.out; simp only [List.length_nil]; omega) ?_; intro v391 w5 ho hb hg hat; rw [List.nil_append] at ho))
    go_ret
    exact ⟨_, rfl, ho, hb⟩
  · rw [if_neg c2] at h
    cases h
end Go.Proofs.YtgghefjkkidaoaaDoor.P
end

section
namespace Go.Proofs.YtgghefjkkidaoaaDoor.P
open Go.RowKit Go.Proofs.YtgghefjkkidaoaaDoorW.PrintWords Go.Proofs.YtgghefjkkidaoaaDoorW.PrintLast Go.Proofs.YtgghefjkkidaoaaDoorW.PrintMore Go.Proofs.YtgghefjkkidaoaaDoorM
attribute [local go_sem] max2_int min2_int max_two min_two max_three min_three max_four min_four   -- for this text's walks alone
set_option linter.unusedVariables false
set_option linter.unusedSimpArgs false
mutual
def impl_Replace.j0 : Nat → List (S47) → ByteArray → ByteArray → Bool → Option ((List (S47)))
  | 0, _, _, _, _ => none
  | k + 1, x0, x1, x2, x28 => if x28 = true then (some ([] : List (S47))) else ((impl_cloneTree.f x0).bind fun t544 => (impl_Replace.l0 k x1 x2 t544 (t544.length : Int) 0))
def impl_Replace.l0 : Nat → ByteArray → ByteArray → List (S47) → Int → Int → Option ((List (S47)))
  | 0, _, _, _, _, _ => none
  | k + 1, x1, x2, x7, x32, x33 => if x33 < x32 then (if 0 ≤ x33 then (if x33 < (x7.length : Int) then ((strings_ReplaceAll.f ((rd_T47 x7 x33).f2) x1 x2).bind fun t548 => (impl_Replace.l0 k x1 x2 (x7.set (x33 : Int).toNat (⟨(rd_T47 x7 x33).f0, (rd_T47 x7 x33).f1, t548, (rd_T47 x7 x33).f3⟩ : S47)) x32 (wrap64 (x33 + 1)))) else (none)) else (none)) else (some x7)
end
def impl_Replace.f (k : Nat) (l0 : List (S47)) (a1 : ByteArray) (a2 : ByteArray) : Option ((List (S47))) := (impl_TreeOk.f k l0).bind fun t541 => (if t541 = true then ((impl_AddressOk.f k a1).bind fun t542 => (if t542 = true then ((impl_AddressOk.f k a2).bind fun t543 => (if t543 = true then (impl_Replace.j0 k l0 a1 a2 ((a1.size : Int) != (a2.size : Int))) else (impl_Replace.j0 k l0 a1 a2 true))) else (impl_Replace.j0 k l0 a1 a2 true))) else (impl_Replace.j0 k l0 a1 a2 true))
set_option maxHeartbeats 8000000 in
set_option maxRecDepth 100000 in
theorem impl_Replace.calls (k : Nat) (A0 : Option Addr) (c0 : Nat) (l0 : List (S47)) (a1 : ByteArray) (a2 : ByteArray) (r : List (S47)) (w : World) (hE : EnvW w) (hr0 : Kd.C k47 w A0 l0.length l0) (hc0 : l0.length ≤ c0) (h : impl_Replace.f k l0 a1 a2 = some r) :
    Calls Tryd.prog 31 #[.slice A0 l0.length c0, .string a1, .string a2] w fun e w' => ∃ v0_ : Value, e = .returned (v0_) ∧ Kd.R k47 47 w' w.heap.size (fun _ => True) v0_ r ∧ Below w.heap.size w w' := by
  have HE := Aside0.mk hE
  clear hE
  have HR0 := Aside0.mk hr0
  have HC0 := Aside0.mk hc0
  clear hr0 hc0
  have HB := Aside0.mk (Below.refl w.heap.size w)
  have H : ((impl_TreeOk.f k l0).bind fun t541 => (if t541 = true then ((impl_AddressOk.f k a1).bind fun t542 => (if t542 = true then ((impl_AddressOk.f k a2).bind fun t543 => (if t543 = true then (impl_Replace.j0 k l0 a1 a2 ((a1.size : Int) != (a2.size : Int))) else (impl_Replace.j0 k l0 a1 a2 true))) else (impl_Replace.j0 k l0 a1 a2 true))) else (impl_Replace.j0 k l0 a1 a2 true))) = some r := h
  clear h
  have HC4 := Aside0.mk H
  clear H
  go_enter Tryd.func31, Tryd.ntmps31
  go_upto_region 1 with (fail)
  go_cut [28] (fun v28 wc => ∃ (kq : Nat) (x28_3 : Bool), v28 = .bool x28_3 ∧ Aside0 (impl_Replace.j0 kq l0 a1 a2 x28_3 = some r) ∧ Aside0 (kq ≤ k) ∧ Aside0 (Below w.heap.size w wc))
  case first =>
    have H := HC4.out
    clear HC4
    replace H := Option.bind_eq_some_iff.mp H
    obtain ⟨t541, A50, H⟩ := H
    replace H : (if t541 = true then ((impl_AddressOk.f k a1).bind fun t542 => (if t542 = true then ((impl_AddressOk.f k a2).bind fun t543 => (if t543 = true then (impl_Replace.j0 k l0 a1 a2 ((a1.size : Int) != (a2.size : Int))) else (impl_Replace.j0 k l0 a1 a2 true))) else (impl_Replace.j0 k l0 a1 a2 true))) else (impl_Replace.j0 k l0 a1 a2 true)) = some r := H
    have A5 := Aside0.mk A50
    clear A50
    by_cases c6 : t541 = true
    · subst c6
      have H1 : ((impl_AddressOk.f k a1).bind fun t542 => (if t542 = true then ((impl_AddressOk.f k a2).bind fun t543 => (if t543 = true then (impl_Replace.j0 k l0 a1 a2 ((a1.size : Int) != (a2.size : Int))) else (impl_Replace.j0 k l0 a1 a2 true))) else (impl_Replace.j0 k l0 a1 a2 true))) = some r := by rw [if_pos rfl] at H; exact H
      clear H
      have H := H1
      clear H1
      replace H := Option.bind_eq_some_iff.mp H
      obtain ⟨t542, A70, H⟩ := H
      replace H : (if t542 = true then ((impl_AddressOk.f k a2).bind fun t543 => (if t543 = true then (impl_Replace.j0 k l0 a1 a2 ((a1.size : Int) != (a2.size : Int))) else (impl_Replace.j0 k l0 a1 a2 true))) else (impl_Replace.j0 k l0 a1 a2 true)) = some r := H
      have A7 := Aside0.mk A70
      clear A70
      by_cases c8 : t542 = true
      · subst c8
        have H1 : ((impl_AddressOk.f k a2).bind fun t543 => (if t543 = true then (impl_Replace.j0 k l0 a1 a2 ((a1.size : Int) != (a2.size : Int))) else (impl_Replace.j0 k l0 a1 a2 true))) = some r := by rw [if_pos rfl] at H; exact H
        clear H
        have H := H1
        clear H1
        replace H := Option.bind_eq_some_iff.mp H
        obtain ⟨t543, A90, H⟩ := H
        replace H : (if t543 = true then (impl_Replace.j0 k l0 a1 a2 ((a1.size : Int) != (a2.size : Int))) else (impl_Replace.j0 k l0 a1 a2 true)) = some r := H
        have A9 := Aside0.mk A90
        clear A90
        by_cases c10 : t543 = true
        · subst c10
          have H1 : (impl_Replace.j0 k l0 a1 a2 ((a1.size : Int) != (a2.size : Int))) = some r := by rw [if_pos rfl] at H; exact H
          clear H
          have H := H1
          clear H1
          have H' := Aside0.mk H
          clear H
          go_wp2_with (first | ((with_reducible refine gate_callee (f := 46) rfl ?_); refine goesL_ (some 10) rfl rfl Tryd.func46 (by kernel_rfl) rfl #[.slice A0 l0.length c0] rfl (by (try simp only [List.map_toArray, List.map_cons, List.map_nil]); first | done | rfl | (simp only [List.length_drop, List.length_take]; rfl)) ?_; (with_reducible refine (impl_TreeOk.calls k _ _ l0 true _ ?side1 ?side2 ?side3 A5.out).mono ?_); (case side1 => refine EnvW.below HE.out ?_; repeat (first | (with_reducible first | exact HB.out | apply below_alloc | apply pw_below_drewN | apply below_drew1) | exact HB.out)); (case side2 => repeat (first | exact (Kd.C_below HR0.out HB.out) | (with_reducible refine Kd.C_alloc ?_ _) | (with_reducible refine Kd.C_drewN ?_ _) | (with_reducible refine Kd.C_drew ?_))); (case side3 => exact HC0.out); rintro e w11 ⟨rfl, hb⟩; refine ⟨_, rfl, ?_⟩; have n0_ := Aside0.mk (below_step (by repeat (first | (with_reducible first | exact HB.out | apply below_alloc | apply pw_below_drewN | apply below_drew1) | exact HB.out)) hb); clear HB; have HB := n0_; clear n0_; (try clear hb); (try clear hb2); (try clear hk); (try clear hi)) | (go_at_call 70; (with_reducible refine (impl_AddressOk.calls k a1 true _ A7.out).mono ?_); rintro e w' ⟨rfl, ⟨nd, rfl⟩⟩) | (go_at_call 70; (with_reducible refine (impl_AddressOk.calls k a2 true _ A9.out).mono ?_); rintro e w' ⟨rfl, ⟨nd, rfl⟩⟩))
          go_meet
          case rel => exact ⟨_, (((a1.size : Int) != (a2.size : Int))), (by first | rfl | (simp; done) | (simp [*]; done)), H', ⟨by first | omega | exact Nat.le_refl _⟩, ⟨by repeat (first | (with_reducible first | exact HB.out | apply below_alloc | apply pw_below_drewN | apply below_drew1) | exact HB.out)⟩⟩
        · replace c10 := Bool.eq_false_iff.mpr c10
          subst c10
          have H1 : (impl_Replace.j0 k l0 a1 a2 true) = some r := by rw [if_neg (show ¬ (false = true) by decide)] at H; exact H
          clear H
          have H := H1
          clear H1
          have H' := Aside0.mk H
          clear H
          go_wp2_with (first | ((with_reducible refine gate_callee (f := 46) rfl ?_); refine goesL_ (some 10) rfl rfl Tryd.func46 (by kernel_rfl) rfl #[.slice A0 l0.length c0] rfl (by (try simp only [List.map_toArray, List.map_cons, List.map_nil]); first | done | rfl | (simp only [List.length_drop, List.length_take]; rfl)) ?_; (with_reducible refine (impl_TreeOk.calls k _ _ l0 true _ ?side1 ?side2 ?side3 A5.out).mono ?_); (case side1 => refine EnvW.below HE.out ?_; repeat (first | (with_reducible first | exact HB.out | apply below_alloc | apply pw_below_drewN | apply below_drew1) | exact HB.out)); (case side2 => repeat (first | exact (Kd.C_below HR0.out HB.out) | (with_reducible refine Kd.C_alloc ?_ _) | (with_reducible refine Kd.C_drewN ?_ _) | (with_reducible refine Kd.C_drew ?_))); (case side3 => exact HC0.out); rintro e w12 ⟨rfl, hb⟩; refine ⟨_, rfl, ?_⟩; have n0_ := Aside0.mk (below_step (by repeat (first | (with_reducible first | exact HB.out | apply below_alloc | apply pw_below_drewN | apply below_drew1) | exact HB.out)) hb); clear HB; have HB := n0_; clear n0_; (try clear hb); (try clear hb2); (try clear hk); (try clear hi)) | (go_at_call 70; (with_reducible refine (impl_AddressOk.calls k a1 true _ A7.out).mono ?_); rintro e w' ⟨rfl, ⟨nd, rfl⟩⟩) | (go_at_call 70; (with_reducible refine (impl_AddressOk.calls k a2 false _ A9.out).mono ?_); rintro e w' ⟨rfl, ⟨nd, rfl⟩⟩))
          go_meet
          case rel => exact ⟨_, (true), (by first | rfl | (simp; done) | (simp [*]; done)), H', ⟨by first | omega | exact Nat.le_refl _⟩, ⟨by repeat (first | (with_reducible first | exact HB.out | apply below_alloc | apply pw_below_drewN | apply below_drew1) | exact HB.out)⟩⟩
      · replace c8 := Bool.eq_false_iff.mpr c8
        subst c8
        have H1 : (impl_Replace.j0 k l0 a1 a2 true) = some r := by rw [if_neg (show ¬ (false = true) by decide)] at H; exact H
        clear H
        have H := H1
        clear H1
        have H' := Aside0.mk H
        clear H
        go_wp2_with (first | ((with_reducible refine gate_callee (f := 46) rfl ?_); refine goesL_ (some 10) rfl rfl Tryd.func46 (by kernel_rfl) rfl #[.slice A0 l0.length c0] rfl (by (try simp only [List.map_toArray, List.map_cons, List.map_nil]); first | done | rfl | (simp only [List.length_drop, List.length_take]; rfl)) ?_; (with_reducible refine (impl_TreeOk.calls k _ _ l0 true _ ?side1 ?side2 ?side3 A5.out).mono ?_); (case side1 => refine EnvW.below HE.out ?_; repeat (first | (with_reducible first | exact HB.out | apply below_alloc | apply pw_below_drewN | apply below_drew1) | exact HB.out)); (case side2 => repeat (first | exact (Kd.C_below HR0.out HB.out) | (with_reducible refine Kd.C_alloc ?_ _) | (with_reducible refine Kd.C_drewN ?_ _) | (with_reducible refine Kd.C_drew ?_))); (case side3 => exact HC0.out); rintro e w13 ⟨rfl, hb⟩; refine ⟨_, rfl, ?_⟩; have n0_ := Aside0.mk (below_step (by repeat (first | (with_reducible first | exact HB.out | apply below_alloc | apply pw_below_drewN | apply below_drew1) | exact HB.out)) hb); clear HB; have HB := n0_; clear n0_; (try clear hb); (try clear hb2); (try clear hk); (try clear hi)) | (go_at_call 70; (with_reducible refine (impl_AddressOk.calls k a1 false _ A7.out).mono ?_); rintro e w' ⟨rfl, ⟨nd, rfl⟩⟩))
        go_meet
        case rel => exact ⟨_, (true), (by first | rfl | (simp; done) | (simp [*]; done)), H', ⟨by first | omega | exact Nat.le_refl _⟩, ⟨by repeat (first | (with_reducible first | exact HB.out | apply below_alloc | apply pw_below_drewN | apply below_drew1) | exact HB.out)⟩⟩
    · replace c6 := Bool.eq_false_iff.mpr c6
      subst c6
      have H1 : (impl_Replace.j0 k l0 a1 a2 true) = some r := by rw [if_neg (show ¬ (false = true) by decide)] at H; exact H
      clear H
      have H := H1
      clear H1
      have H' := Aside0.mk H
      clear H
      go_wp2_with (first | ((with_reducible refine gate_callee (f := 46) rfl ?_); refine goesL_ (some 10) rfl rfl Tryd.func46 (by kernel_rfl) rfl #[.slice A0 l0.length c0] rfl (by (try simp only [List.map_toArray, List.map_cons, List.map_nil]); first | done | rfl | (simp only [List.length_drop, List.length_take]; rfl)) ?_; (with_reducible refine (impl_TreeOk.calls k _ _ l0 false _ ?side1 ?side2 ?side3 A5.out).mono ?_); (case side1 => refine EnvW.below HE.out ?_; repeat (first | (with_reducible first | exact HB.out | apply below_alloc | apply pw_below_drewN | apply below_drew1) | exact HB.out)); (case side2 => repeat (first | exact (Kd.C_below HR0.out HB.out) | (with_reducible refine Kd.C_alloc ?_ _) | (with_reducible refine Kd.C_drewN ?_ _) | (with_reducible refine Kd.C_drew ?_))); (case side3 => exact HC0.out); rintro e w14 ⟨rfl, hb⟩; refine ⟨_, rfl, ?_⟩; have n0_ := Aside0.mk (below_step (by repeat (first | (with_reducible first | exact HB.out | apply below_alloc | apply pw_below_drewN | apply below_drew1) | exact HB.out)) hb); clear HB; have HB := n0_; clear n0_; (try clear hb); (try clear hb2); (try clear hk); (try clear hi)))
      go_meet
      case rel => exact ⟨_, (true), (by first | rfl | (simp; done) | (simp [*]; done)), H', ⟨by first | omega | exact Nat.le_refl _⟩, ⟨by repeat (first | (with_reducible first | exact HB.out | apply below_alloc | apply pw_below_drewN | apply below_drew1) | exact HB.out)⟩⟩
  case rest =>
    clear HC4
    try clear c1
    try clear p2
    try clear c3
    try clear c4
    try clear c6
    try clear c8
    try clear c10
    obtain ⟨kq, x28_3, rfl, HA, HJ3, HB⟩ := hcut
    cases kq with
    | zero => exact absurd HA.out (by simp [impl_Replace.j0])
    | succ kj3 =>
      have H := HA.out
      clear HA
      simp only [impl_Replace.j0] at H
      by_cases c15 : x28_3 = true
      · subst c15
        have H1 : (some ([] : List (S47))) = some r := by rw [if_pos rfl] at H; exact H
        clear H
        have H := H1
        clear H1
        obtain rfl := Option.some.inj H
        go_wp2
        go_ret
        exact ⟨_, by first | rfl | (simp [errW_none, errW_some] <;> rfl) | (simp [*, errW_none, errW_some] <;> rfl), by first | exact Kd.R_nil _ _ _ _ _ | exact Kd.N_nil _ _ _ _ _ | exact Kd.V_nil _ _ _ _ _ | exact Kd.Q_nil _ _ _ _ _ | exact Kd.S_nil _ _ _ _ _, by repeat (first | (with_reducible first | exact HB.out | apply below_alloc | apply pw_below_drewN | apply below_drew1) | exact HB.out)⟩
      · replace c15 := Bool.eq_false_iff.mpr c15
        subst c15
        have H1 : ((impl_cloneTree.f l0).bind fun t544 => (impl_Replace.l0 kj3 a1 a2 t544 (t544.length : Int) 0)) = some r := by rw [if_neg (show ¬ (false = true) by decide)] at H; exact H
        clear H
        have H := H1
        clear H1
        replace H := Option.bind_eq_some_iff.mp H
        obtain ⟨t544, A160, H⟩ := H
        replace H : (impl_Replace.l0 kj3 a1 a2 t544 (t544.length : Int) 0) = some r := H
        have A16 := Aside0.mk A160
        clear A160
        have H' := Aside0.mk H
        clear H
        go_wp2_with (first | ((with_reducible refine gate_callee (f := 59) rfl ?_); refine goesL_ (some 30) rfl rfl Tryd.func59 (by kernel_rfl) rfl #[.slice A0 l0.length c0] rfl (by (try simp only [List.map_toArray, List.map_cons, List.map_nil]); first | done | rfl | (simp only [List.length_drop, List.length_take]; rfl)) ?_; (with_reducible refine (impl_cloneTree.calls _ _ l0 t544 _ ?side1 ?side2 A16.out).mono ?_); (case side1 => repeat (first | exact (Kd.C_below HR0.out HB.out) | (with_reducible refine Kd.C_alloc ?_ _) | (with_reducible refine Kd.C_drewN ?_ _) | (with_reducible refine Kd.C_drew ?_))); (case side2 => exact HC0.out); rintro e w17 ⟨v545, rfl, ho0, hb⟩; refine ⟨_, rfl, ?_⟩; have n0_ := Aside0.mk (Kd.R_lower ho0 (below_size (by repeat (first | (with_reducible first | exact HB.out | apply below_alloc | apply pw_below_drewN | apply below_drew1) | exact HB.out)))); have n1_ := Aside0.mk (below_step (by repeat (first | (with_reducible first | exact HB.out | apply below_alloc | apply pw_below_drewN | apply below_drew1) | exact HB.out)) hb); clear HB; have HO546 := n0_; have HB := n1_; clear n0_ n1_; (try clear hb); (try clear hb2); (try clear hk); (try clear hi); (try clear ho0); obtain ⟨Ao18, co18, eo18⟩ := Kd.R_slice HO546.out; subst eo18))
        go_loopg [33] kj3 (fun kq v33 w' => ∃ (x7_2 : List (S47)) (x33_2 : Int), v33 = .int .i64 x33_2 ∧ Aside0 (impl_Replace.l0 kq a1 a2 x7_2 (t544.length : Int) x33_2 = some r) ∧ Aside0 (kq ≤ kj3) ∧ Aside0 (Kd.R k47 47 w' w.heap.size (fun _ => True) (.slice Ao18 t544.length co18) x7_2) ∧ Aside0 (Below w.heap.size w w'))
        case atStart => exact ⟨(t544), (0), (by first | rfl | (simp; done) | (simp [*]; done)), H', ⟨Nat.le_refl _⟩, ⟨by (with_reducible repeat (first | apply Kd.R_alloc | apply Kd.R_drewN | apply Kd.R_drew)); exact HO546.out⟩, ⟨by repeat (first | (with_reducible first | exact HB.out | apply below_alloc | apply pw_below_drewN | apply below_drew1) | exact HB.out)⟩⟩
        case round =>
          clear H'
          try clear c1
          try clear p2
          try clear c3
          try clear c4
          try clear c5
          try clear c6
          try clear c8
          try clear c10
          try clear c15
          try clear p2
          obtain ⟨x7_2, x33_2, rfl, HA, HK2, HO_7, HB⟩ := hrel
          have hl7_2 := (Kd.R_reads' HO_7.out).1
          rw [hl7_2] at HO_7
          (try simp only [hl7_2])
          cases gk with
          | zero => exact absurd HA.out (by simp [impl_Replace.l0])
          | succ k2 =>
            have H := HA.out
            clear HA
            simp only [impl_Replace.l0] at H
            by_cases c19 : x33_2 < (t544.length : Int)
            · rw [if_pos c19] at H
              have c19b0 : decide (x33_2 < (t544.length : Int)) = true := decide_eq_true c19
              (try (have c19b0' := c19b0; simp only [hl7_2] at c19b0'))
              clear c19
              by_cases c20 : 0 ≤ x33_2
              · rw [if_pos c20] at H
                have c20b0 : decide (0 ≤ x33_2) = true := decide_eq_true c20
                clear c20
                by_cases c21 : x33_2 < (x7_2.length : Int)
                · rw [if_pos c21] at H
                  have c21b0 : decide (x33_2 < (x7_2.length : Int)) = true := decide_eq_true c21
                  (try (have c21b0' := c21b0; simp only [hl7_2] at c21b0'))
                  clear c21
                  replace H := Option.bind_eq_some_iff.mp H
                  obtain ⟨t548, A220, H⟩ := H
                  replace H : (impl_Replace.l0 k2 a1 a2 (x7_2.set (x33_2 : Int).toNat (⟨(rd_T47 x7_2 x33_2).f0, (rd_T47 x7_2 x33_2).f1, t548, (rd_T47 x7_2 x33_2).f3⟩ : S47)) (t544.length : Int) (wrap64 (x33_2 + 1))) = some r := H
                  have A22 := Aside0.mk A220
                  clear A220
                  obtain ⟨y549, hy549⟩ : ∃ y_ : List (S47), y_ = (x7_2.set (x33_2 : Int).toNat (⟨(rd_T47 x7_2 x33_2).f0, (rd_T47 x7_2 x33_2).f1, t548, (rd_T47 x7_2 x33_2).f3⟩ : S47)) := ⟨_, rfl⟩
                  replace H : (impl_Replace.l0 k2 a1 a2 y549 (t544.length : Int) (wrap64 (x33_2 + 1))) = some r := by first | (rw [hy549]; with_reducible exact H) | (have H2_ := (Option.bind_some _ _).symm.trans H; rw [hy549]; with_reducible exact H2_) | (have H2_ := (Option.bind_some _ _).symm.trans H; with_reducible exact H2_) | with_reducible exact H | (rw [hy549]; exact H) | exact H
                  have Ny549 := Aside0.mk hy549
                  clear hy549
                  have H' := Aside0.mk H
                  clear H
                  have p547 : 0 ≤ (x33_2 : Int) := of_decide_eq_true (by first | (with_reducible assumption) | assumption)
                  have q547 : x33_2 < (x7_2.length : Int) := of_decide_eq_true (by first | (with_reducible assumption) | assumption)
                  obtain ⟨ad547, e547, hx547_0, hx547_1, hx547_2, hx547_3⟩ := at_T47 (Kd.R_reads' HO_7.out).2.2 x33_2 p547 q547
                  cases e547
                  replace p547 := eq_true p547
                  replace q547 := eq_true q547
                  go_wp2_with (first | ((with_reducible refine gate_callee (f := 71) rfl ?_); refine goesL_ (some 45) rfl rfl Tryd.func71 (by kernel_rfl) rfl #[.string ((rd_T47 x7_2 x33_2).f2), .string a1, .string a2] rfl (by (try simp only [List.map_toArray, List.map_cons, List.map_nil]); first | done | rfl | (simp only [List.length_drop, List.length_take]; rfl)) ?_; (with_reducible refine (strings_ReplaceAll.calls ((rd_T47 x7_2 x33_2).f2) a1 a2 t548 _ ?side1 A22.out).mono ?_); (case side1 => refine EnvW.below HE.out ?_; repeat (first | (with_reducible first | exact HB.out | apply below_alloc | apply pw_below_drewN | apply below_drew1) | exact HB.out)); rintro e w24 ⟨rfl, hb⟩; refine ⟨_, rfl, ?_⟩; have n0_ := Aside0.mk (Kd.R_below (by (with_reducible repeat (first | apply Kd.R_alloc | apply Kd.R_drewN | apply Kd.R_drew)); exact HO_7.out) hb); have n1_ := Aside0.mk (below_step (by repeat (first | (with_reducible first | exact HB.out | apply below_alloc | apply pw_below_drewN | apply below_drew1) | exact HB.out)) hb); clear HO_7; clear HB; have HO_7 := n0_; have HB := n1_; clear n0_ n1_; (try clear hb); (try clear hb2); (try clear hk); (try clear hi); have p23 : 0 ≤ (x33_2 : Int) := of_decide_eq_true (by first | (with_reducible assumption) | assumption); have q23 : (x33_2 : Int) < ((x7_2.length : Int) : Int) := of_decide_eq_true (by first | (with_reducible assumption) | assumption); obtain ⟨go23, co23, eo23, gb23, gl23, cl23, HG23⟩ := Kd.R_form HO_7.out (by omega); (first | cases eo23 | (injection eo23 with ea_ en_ ec_; (first | subst ea_ | (injection ea_ with ea_; subst ea_)); subst ec_; clear en_)); have GB23 := Aside0.mk gb23; have GG23 := Aside0.mk HG23; clear gb23 gl23 HG23; (first | simp only [add_plain] at hx547_0 | skip); (first | simp only [add_plain] at hx547_1 | skip); (first | simp only [add_plain] at hx547_2 | skip); (first | simp only [add_plain] at hx547_3 | skip); obtain ⟨ce23, hcl23, hM23, hcc23, hfr23⟩ := Kd.R_elem HO_7.out z47 (x33_2 : Int) p23 q23; obtain rfl := k47_openM hM23; have hx23_0 : w24.cell? ⟨go23, (x33_2 : Int).toNat * 4, none⟩ = some (.string ((rd_T47 x7_2 x33_2).f0)) := hcc23 0 _ rfl; have hx23_1 : w24.cell? ⟨go23, (x33_2 : Int).toNat * 4 + 1, none⟩ = some (.int .i64 ((rd_T47 x7_2 x33_2).f1)) := hcc23 1 _ rfl; have hx23_2 : w24.cell? ⟨go23, (x33_2 : Int).toNat * 4 + 2, none⟩ = some (.string ((rd_T47 x7_2 x33_2).f2)) := hcc23 2 _ rfl; have hx23_3 : w24.cell? ⟨go23, (x33_2 : Int).toNat * 4 + 3, none⟩ = some (.bool ((rd_T47 x7_2 x33_2).f3)) := hcc23 3 _ rfl; have hf23_0 : w24.frozen? ⟨go23, (x33_2 : Int).toNat * 4, none⟩ = false := hfr23 0; have hf23_1 : w24.frozen? ⟨go23, (x33_2 : Int).toNat * 4 + 1, none⟩ = false := hfr23 1; have hf23_2 : w24.frozen? ⟨go23, (x33_2 : Int).toNat * 4 + 2, none⟩ = false := hfr23 2; have hf23_3 : w24.frozen? ⟨go23, (x33_2 : Int).toNat * 4 + 3, none⟩ = false := hfr23 3; clear hcl23 hcc23 hfr23 hM23; replace p23 := eq_true p23; replace q23 := eq_true q23; have HX25 := Aside0.mk (show Kd.R k47 47 w24 w.heap.size (fun _ => True) (.slice (some ⟨go23, 0, none⟩) x7_2.length co18) x7_2 from (by (with_reducible repeat (first | apply Kd.R_alloc | apply Kd.R_drewN | apply Kd.R_drew)); exact HO_7.out)); obtain ⟨ce25, hcl25, hM25, hcc25, hfr25⟩ := Kd.R_elem HX25.out z47 (x33_2 : Int) (of_decide_eq_true (by first | (with_reducible assumption) | assumption)) (by have h_ : (x33_2 : Int) < ((x7_2.length : Int) : Int) := of_decide_eq_true (by first | (with_reducible assumption) | assumption); first | exact h_ | (have e_ := (Kd.R_reads' HO_7.out).1; omega) | simpa using h_); obtain rfl := k47_openM hM25; have HP25 := Kd.R_seg HX25.out (x33_2 : Int) (of_decide_eq_true (by first | (with_reducible assumption) | assumption)) (by have h_ : (x33_2 : Int) < ((x7_2.length : Int) : Int) := of_decide_eq_true (by first | (with_reducible assumption) | assumption); first | exact h_ | (have e_ := (Kd.R_reads' HO_7.out).1; omega) | simpa using h_) (seg := [.string t548]) (j := 2) hcl25 hcc25 (show 3 ≤ 4 from by decide) (x' := (⟨(rd_T47 x7_2 x33_2).f0, (rd_T47 x7_2 x33_2).f1, t548, (rd_T47 x7_2 x33_2).f3⟩ : S47)) (k47_mkM _ _ _ (⟨(rd_T47 x7_2 x33_2).f0, (rd_T47 x7_2 x33_2).f1, t548, (rd_T47 x7_2 x33_2).f3⟩ : S47) ) (fun _ hk => hk); have hx25_2 := hcc25 2 _ rfl; (try simp only [show (k47).sz = 4 from rfl, Nat.mul_one, Nat.add_zero] at hx25_2); have hf25_2 := hfr25 2; (try simp only [show (k47).sz = 4 from rfl, Nat.mul_one, Nat.add_zero] at hf25_2); clear hcl25 hcc25 hfr25 hM25) | ((with_reducible refine gate_store (t := 9) (p := 47) rfl ?_); refine store_event (t := 9) (p := 47) (v := ?vo_w26) (w1 := (w24.setCell ⟨go23, (x33_2 : Int).toNat * 4 + 2, none⟩ (.string t548))) ?hg ?ho ?hn ?hr ?_; (case ho => rfl); (case hg => rfl); (case hn => rfl); (case hr => first | (go_simp; done) | (go_simp; rfl)); intro w26 hw; have hg : w24.grownBy w26 (some go23) := (by rw [hw]; exact HP25.2); have hp_ : Kd.R k47 47 w26 w.heap.size (fun _ => True) (.slice (some ⟨go23, 0, none⟩) x7_2.length co18) y549 := (by rw [hw, Ny549.out]; exact HP25.1); clear HP25; have n0_ := Aside0.mk (hp_); have n1_ := Aside0.mk ((by rw [hw]; exact below_set (HB.out) GB23.out : Below w.heap.size w w26)); clear HO_7; clear HB; have HO_7 := n0_; have HB := n1_; clear n0_ n1_; clear hg hw hp_))
                  (try simp only [← hl7_2])
                  go_roundg k2
                  case measure => have := HJ3.out; have := HK2.out; omega
                  case rel => exact ⟨(y549), (wrap64 (x33_2 + 1)), (by first | rfl | (simp; done) | (simp [*]; done)), H', ⟨by have := HJ3.out; have := HK2.out; omega⟩, ⟨by (try simp only [hl7_2]); (with_reducible repeat (first | apply Kd.R_alloc | apply Kd.R_drewN | apply Kd.R_drew)); exact HO_7.out⟩, ⟨by repeat (first | (with_reducible first | exact HB.out | apply below_alloc | apply pw_below_drewN | apply below_drew1) | exact HB.out)⟩⟩
                · rw [if_neg c21] at H
                  exact absurd H (by simp)
              · rw [if_neg c20] at H
                exact absurd H (by simp)
            · rw [if_neg c19] at H
              have c19b0 : decide (x33_2 < (t544.length : Int)) = false := decide_eq_false c19
              (try (have c19b0' := c19b0; simp only [hl7_2] at c19b0'))
              clear c19
              obtain rfl := Option.some.inj H
              go_wp2
              go_ret
              exact ⟨_, by first | rfl | (simp [errW_none, errW_some] <;> rfl) | (simp [*, errW_none, errW_some] <;> rfl), by (with_reducible repeat (first | apply Kd.R_alloc | apply Kd.R_drewN | apply Kd.R_drew)); exact HO_7.out, by repeat (first | (with_reducible first | exact HB.out | apply below_alloc | apply pw_below_drewN | apply below_drew1) | exact HB.out)⟩
end Go.Proofs.YtgghefjkkidaoaaDoor.P
end
