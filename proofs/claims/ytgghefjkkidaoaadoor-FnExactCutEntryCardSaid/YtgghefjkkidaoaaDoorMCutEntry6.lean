/- Texts of CutEntry, put together by program. -/
import Derived.Test.YtgghefjkkidaoaaDoorMCutEntry3
import Derived.Test.YtgghefjkkidaoaaDoorMCutEntry5
import Derived.Test.YtgghefjkkidaoaaDoorMCutEntry4

section
namespace Go.Proofs.YtgghefjkkidaoaaDoor.P
open Go.RowKit Go.Proofs.YtgghefjkkidaoaaDoorW.PrintWords Go.Proofs.YtgghefjkkidaoaaDoorW.PrintLast Go.Proofs.YtgghefjkkidaoaaDoorW.PrintMore Go.Proofs.YtgghefjkkidaoaaDoorM
attribute [local go_sem] max2_int min2_int max_two min_two max_three min_three max_four min_four   -- for this text's walks alone
set_option linter.unusedVariables false
set_option linter.unusedSimpArgs false
def laws_heldEntryS.l0 : Nat → List (S47) → Int → Int → Option (Int)
  | 0, _, _, _ => none
  | k + 1, x0, x1, x5 => if x5 < (x0.length : Int) then (if 0 ≤ x5 then ((laws_markText.f k x1).bind fun t381 => (if ((rd_T47 x0 x5).f0).toList = t381.toList then (if ((rd_T47 x0 x5).f1) = (wrap64 (x1 + 1)) then ((laws_markText.f k (wrap64 ((wrap64 (x1 + 1)) + 1))).bind fun t384 => (if ((rd_T47 x0 x5).f2).toList = t384.toList then (if (((rd_T47 x0 x5).f3) != ((Int.tmod (wrap64 ((wrap64 ((wrap64 (x1 + 1)) + 1)) + 1)) 3) == 0)) = true then (some (-1)) else (laws_heldEntryS.l0 k x0 (wrap64 ((wrap64 ((wrap64 ((wrap64 (x1 + 1)) + 1)) + 1)) + 1)) (wrap64 (x5 + 1)))) else (some (-1)))) else (some (-1))) else (some (-1)))) else (none)) else (some x1)
def laws_heldEntryS.f (k : Nat) (l0 : List (S47)) (a1 : Int) : Option (Int) := laws_heldEntryS.l0 k l0 a1 0
def laws_heldEntryS.T4 : Bool × List (List Nat × List Nat) := (true, [([], []), ([], []), ([0, 1], [0, 1]), ([2], [2]), ([3], [3]), ([], []), ([5], [5]), ([4, 6], [4, 6])])
def laws_heldEntryS.B4 : List Nat := [0, 0, 3, 7, 15, 0, 32, 127]
theorem laws_heldEntryS.tab4 : rtab .any (opsOf Tryd.f24 4) = laws_heldEntryS.T4 := by kernel_rfl
theorem laws_heldEntryS.bits4 : waitsOk laws_heldEntryS.T4.2 laws_heldEntryS.B4 = true := by kernel_rfl
def laws_heldEntryS.T10 : Bool × List (List Nat × List Nat) := (true, [([], []), ([], []), ([0, 1], [0, 1]), ([2], [2]), ([3], [3]), ([], []), ([5], [5]), ([4, 6], [4, 6])])
def laws_heldEntryS.B10 : List Nat := [0, 0, 3, 7, 15, 0, 32, 127]
theorem laws_heldEntryS.tab10 : rtab .any (opsOf Tryd.f24 10) = laws_heldEntryS.T10 := by kernel_rfl
theorem laws_heldEntryS.bits10 : waitsOk laws_heldEntryS.T10.2 laws_heldEntryS.B10 = true := by kernel_rfl
set_option maxHeartbeats 8000000 in
set_option maxRecDepth 100000 in
theorem laws_heldEntryS.calls (k : Nat) (A0 : Option Addr) (c0 : Nat) (l0 : List (S47)) (a1 : Int) (r : Int) (w : World) (hr0 : Kd.C k47 w A0 l0.length l0) (hc0 : l0.length ≤ c0) (h : laws_heldEntryS.f k l0 a1 = some r) :
    Calls Tryd.prog 24 #[.slice A0 l0.length c0, .int .i64 a1] w fun e w' => e = .returned (.int .i64 r) ∧ Below w.heap.size w w' := by
  have HR0 := Aside0.mk hr0
  have HC0 := Aside0.mk hc0
  clear hr0 hc0
  have HB := Aside0.mk (Below.refl w.heap.size w)
  have H : (laws_heldEntryS.l0 k l0 a1 0) = some r := h
  clear h
  have H' := Aside0.mk H
  clear H
  go_enter Tryd.func24, Tryd.ntmps24
  go_wp2
  go_loopg [1, 5] k (fun kq v1 v5 w' => ∃ (x1_1 : Int) (x5_1 : Int), v1 = .int .i64 x1_1 ∧ v5 = .int .i64 x5_1 ∧ Aside0 (laws_heldEntryS.l0 kq l0 x1_1 x5_1 = some r) ∧ Aside0 (kq ≤ k) ∧ Aside0 (Below w.heap.size w w'))
  case atStart => exact ⟨(a1), (0), (by first | rfl | (simp; done) | (simp [*]; done)), (by first | rfl | (simp; done) | (simp [*]; done)), H', ⟨Nat.le_refl _⟩, ⟨by repeat (first | (with_reducible first | exact HB.out | apply below_alloc | apply pw_below_drewN | apply below_drew1) | exact HB.out)⟩⟩
  case round =>
    clear H'
    try clear c2
    try clear p2
    obtain ⟨x1_1, x5_1, rfl, rfl, HA, HK1, HB⟩ := hrel
    cases gk with
    | zero => exact absurd HA.out (by simp [laws_heldEntryS.l0])
    | succ k1 =>
      have H := HA.out
      clear HA
      simp only [laws_heldEntryS.l0] at H
      by_cases c3 : x5_1 < (l0.length : Int)
      · rw [if_pos c3] at H
        have c3b0 : decide (x5_1 < (l0.length : Int)) = true := decide_eq_true c3
        clear c3
        by_cases c4 : 0 ≤ x5_1
        · rw [if_pos c4] at H
          have c4b0 : decide (0 ≤ x5_1) = true := decide_eq_true c4
          clear c4
          replace H := Option.bind_eq_some_iff.mp H
          obtain ⟨t381, A50, H⟩ := H
          replace H : (if ((rd_T47 l0 x5_1).f0).toList = t381.toList then (if ((rd_T47 l0 x5_1).f1) = (wrap64 (x1_1 + 1)) then ((laws_markText.f k1 (wrap64 ((wrap64 (x1_1 + 1)) + 1))).bind fun t384 => (if ((rd_T47 l0 x5_1).f2).toList = t384.toList then (if (((rd_T47 l0 x5_1).f3) != ((Int.tmod (wrap64 ((wrap64 ((wrap64 (x1_1 + 1)) + 1)) + 1)) 3) == 0)) = true then (some (-1)) else (laws_heldEntryS.l0 k1 l0 (wrap64 ((wrap64 ((wrap64 ((wrap64 (x1_1 + 1)) + 1)) + 1)) + 1)) (wrap64 (x5_1 + 1)))) else (some (-1)))) else (some (-1))) else (some (-1))) = some r := H
          have A5 := Aside0.mk A50
          clear A50
          by_cases c6 : ((rd_T47 l0 x5_1).f0).toList = t381.toList
          · rw [if_pos c6] at H
            have c6b0 : (((rd_T47 l0 x5_1).f0).toList == t381.toList) = true := beq_iff_eq.mpr c6
            have c6b1 : (((rd_T47 l0 x5_1).f0).toList != t381.toList) = false := bne_eq_false_iff_eq.mpr c6
            clear c6
            by_cases c7 : ((rd_T47 l0 x5_1).f1) = (wrap64 (x1_1 + 1))
            · rw [if_pos c7] at H
              have c7b0 : (((rd_T47 l0 x5_1).f1) == (wrap64 (x1_1 + 1))) = true := beq_iff_eq.mpr c7
              have c7b1 : (((rd_T47 l0 x5_1).f1) != (wrap64 (x1_1 + 1))) = false := bne_eq_false_iff_eq.mpr c7
              clear c7
              replace H := Option.bind_eq_some_iff.mp H
              obtain ⟨t384, A80, H⟩ := H
              replace H : (if ((rd_T47 l0 x5_1).f2).toList = t384.toList then (if (((rd_T47 l0 x5_1).f3) != ((Int.tmod (wrap64 ((wrap64 ((wrap64 (x1_1 + 1)) + 1)) + 1)) 3) == 0)) = true then (some (-1)) else (laws_heldEntryS.l0 k1 l0 (wrap64 ((wrap64 ((wrap64 ((wrap64 (x1_1 + 1)) + 1)) + 1)) + 1)) (wrap64 (x5_1 + 1)))) else (some (-1))) = some r := H
              have A8 := Aside0.mk A80
              clear A80
              by_cases c9 : ((rd_T47 l0 x5_1).f2).toList = t384.toList
              · rw [if_pos c9] at H
                have c9b0 : (((rd_T47 l0 x5_1).f2).toList == t384.toList) = true := beq_iff_eq.mpr c9
                have c9b1 : (((rd_T47 l0 x5_1).f2).toList != t384.toList) = false := bne_eq_false_iff_eq.mpr c9
                clear c9
                by_cases c10 : (((rd_T47 l0 x5_1).f3) != ((Int.tmod (wrap64 ((wrap64 ((wrap64 (x1_1 + 1)) + 1)) + 1)) 3) == 0)) = true
                · rw [if_pos c10] at H
                  have c10b0 : (((rd_T47 l0 x5_1).f3) != ((Int.tmod (wrap64 ((wrap64 ((wrap64 (x1_1 + 1)) + 1)) + 1)) 3) == 0)) = true := c10
                  (try (have c10b1 : decide (((rd_T47 l0 x5_1).f3) = ((Int.tmod (wrap64 ((wrap64 ((wrap64 (x1_1 + 1)) + 1)) + 1)) 3) == 0)) = false := by simpa using c10))
                  (try (have c10b2 : (((rd_T47 l0 x5_1).f3) == ((Int.tmod (wrap64 ((wrap64 ((wrap64 (x1_1 + 1)) + 1)) + 1)) 3) == 0)) = false := by simpa using c10))
                  (try (have c10b3 : ¬ (((rd_T47 l0 x5_1).f3) = ((Int.tmod (wrap64 ((wrap64 ((wrap64 (x1_1 + 1)) + 1)) + 1)) 3) == 0)) := by simpa using c10))
                  clear c10
                  obtain rfl := Option.some.inj H
                  try go_wp2
                  have n0_ := Aside0.mk (below_drew1 HB.out)
                  clear HB
                  have HB := n0_
                  clear n0_
                  have p380 : 0 ≤ (x5_1 : Int) := of_decide_eq_true (by first | (with_reducible assumption) | assumption)
                  have q380 : x5_1 < (l0.length : Int) := of_decide_eq_true (by first | (with_reducible assumption) | assumption)
                  obtain ⟨ad380, e380, hx380_0, hx380_1, hx380_2, hx380_3⟩ := at_T47 HR0.out x5_1 p380 q380
                  have hw380_3 := hx380_3
                  have hw380_2 := hx380_2
                  have hw380_1 := hx380_1
                  have hw380_0 := hx380_0
                  cases e380
                  replace hx380_0 := (HB.out.cell (World.block_lt_of_cell? w _ hx380_0)).trans hx380_0
                  replace hx380_1 := (HB.out.cell (World.block_lt_of_cell? w _ hx380_1)).trans hx380_1
                  replace hx380_2 := (HB.out.cell (World.block_lt_of_cell? w _ hx380_2)).trans hx380_2
                  replace hx380_3 := (HB.out.cell (World.block_lt_of_cell? w _ hx380_3)).trans hx380_3
                  replace p380 := eq_true p380
                  replace q380 := eq_true q380
                  refine start_ (n := 8) (S := fun w' => w'.cell? (ad380.add ((x5_1).toNat * 4)) = some (.string ((rd_T47 l0 x5_1).f0)) ∧ w'.cell? ⟨(ad380.add ((x5_1).toNat * 4)).block, (ad380.add ((x5_1).toNat * 4)).off + 1, none⟩ = some (.int .i64 ((rd_T47 l0 x5_1).f1)) ∧ w'.cell? ⟨(ad380.add ((x5_1).toNat * 4)).block, (ad380.add ((x5_1).toNat * 4)).off + 2, none⟩ = some (.string ((rd_T47 l0 x5_1).f2)) ∧ w'.cell? ⟨(ad380.add ((x5_1).toNat * 4)).block, (ad380.add ((x5_1).toNat * 4)).off + 3, none⟩ = some (.bool ((rd_T47 l0 x5_1).f3))) (ds := []) #[false, false, false, false, false, false, false, false] (by kernel_rfl) rfl rfl ⟨((HB.out.cell (World.block_lt_of_cell? w _ hw380_0)).trans hw380_0), ((HB.out.cell (World.block_lt_of_cell? w _ hw380_1)).trans hw380_1), ((HB.out.cell (World.block_lt_of_cell? w _ hw380_2)).trans hw380_2), ((HB.out.cell (World.block_lt_of_cell? w _ hw380_3)).trans hw380_3)⟩ (fun hHeld => ?_); refine with_tabW laws_heldEntryS.tab4 laws_heldEntryS.bits4 (fun HT_ HW_ => ?_)
                  generalize wr.drew = w11 at HB hx380_0 hx380_1 hx380_2 hx380_3 hHeld ⊢
                  refine pure_ (i := 0) (N := some 12) (v := ?_) (a' := ?_) #[true, false, false, false, false, false, false, false] rfl rfl (any_of HT_.out (by kernel_rfl)) (fun _ _ _ h => h) (Or.inl ⟨by rfl, ?_⟩) ?_ ?_
                  rotate_left
                  · intro w'
                    go_simp
                    with_reducible rfl
                  rotate_left
                  · simp only [Act.put, List.setIfInBounds_toArray, List.set_cons_zero, List.set_cons_succ, i64_w, i32_w]
                    rfl
                  refine pure_ (i := 1) (N := some 13) (v := ?_) (a' := ?_) #[true, true, false, false, false, false, false, false] rfl rfl (any_of HT_.out (by kernel_rfl)) (fun _ _ _ h => h) (Or.inl ⟨by rfl, ?_⟩) ?_ ?_
                  rotate_left
                  · intro w'
                    go_simp
                    with_reducible rfl
                  rotate_left
                  · simp only [Act.put, List.setIfInBounds_toArray, List.set_cons_zero, List.set_cons_succ, i64_w, i32_w]
                    rfl
                  refine pure_ (i := 2) (N := some 14) (v := ?_) (a' := ?_) #[true, true, true, false, false, false, false, false] rfl rfl (any_of HT_.out (by kernel_rfl)) (fun _ _ _ h => h) (Or.inl ⟨by rfl, ?_⟩) ?_ ?_
                  rotate_left
                  · intro w'
                    go_simp
                    with_reducible rfl
                  rotate_left
                  · simp only [Act.put, List.setIfInBounds_toArray, List.set_cons_zero, List.set_cons_succ, i64_w, i32_w]
                    rfl
                  refine pure_ (i := 3) (N := some 15) (v := ?_) (a' := ?_) #[true, true, true, true, false, false, false, false] rfl rfl (any_of HT_.out (by kernel_rfl)) (fun _ _ _ h => h) (Or.inl ⟨by rfl, ?_⟩) ?_ ?_
                  rotate_left
                  · intro w'
                    go_simp
                    with_reducible rfl
                  rotate_left
                  · simp only [Act.put, List.setIfInBounds_toArray, List.set_cons_zero, List.set_cons_succ, i64_w, i32_w]
                    rfl
                  refine pure_ (i := 5) (N := some 17) (v := ?_) (a' := ?_) #[true, true, true, true, false, true, false, false] rfl rfl (any_of HT_.out (by kernel_rfl)) (fun _ _ _ h => h) (Or.inl ⟨by rfl, ?_⟩) ?_ ?_
                  rotate_left
                  · intro w'
                    go_simp
                    with_reducible rfl
                  rotate_left
                  · simp only [Act.put, List.setIfInBounds_toArray, List.set_cons_zero, List.set_cons_succ, i64_w, i32_w]
                    rfl
                  refine take_ (i := 4) (N := some 16) (v := ?_) (a' := ?_) #[true, true, true, true, true, true, false, false] rfl rfl (take_ofW HT_.out HW_.out (by kernel_rfl)) (fun _ _ _ h => h) (Or.inl ⟨by rfl, ?_⟩) hHeld ?_ ?_
                  rotate_left
                  · rintro w' ⟨s0, s1, s2, s3⟩
                    go_simp
                    with_reducible rfl
                  rotate_left
                  · simp only [Act.put, List.setIfInBounds_toArray, List.set_cons_zero, List.set_cons_succ, i64_w, i32_w]
                    rfl
                  refine one_ (i := 6) (N := some 18) #[true, true, true, true, true, true, true, false] rfl rfl (one_of HT_.out (by kernel_rfl)) (by decide) (fun K hK => ?_)
                  refine goes_ Tryd.func51 (by kernel_rfl) rfl #[.int .i64 x1_1] (by rfl) rfl rfl (by (try simp only [List.map_toArray, List.map_cons, List.map_nil]); first | done | rfl | (simp only [List.length_drop, List.length_take]; rfl)) ?_
                  with_reducible refine (laws_markText.calls k1 x1_1 t381 _ A5.out).mono ?_
                  rintro e w12 ⟨rfl, hb⟩
                  refine ⟨_, rfl, ?_⟩
                  have n0_ := Aside0.mk (below_step (by repeat (first | (with_reducible first | exact HB.out | apply below_alloc | apply pw_below_drewN | apply below_drew1) | exact HB.out)) hb)
                  clear HB
                  have HB := n0_
                  clear n0_
                  (try clear hb)
                  (try clear hb2)
                  (try clear hk)
                  (try clear hi)
                  refine hK.out _ _ ⟨((HB.out.cell (World.block_lt_of_cell? w _ hw380_0)).trans hw380_0), ((HB.out.cell (World.block_lt_of_cell? w _ hw380_1)).trans hw380_1), ((HB.out.cell (World.block_lt_of_cell? w _ hw380_2)).trans hw380_2), ((HB.out.cell (World.block_lt_of_cell? w _ hw380_3)).trans hw380_3)⟩ (fun hHeld => ?_)
                  clear hK K
                  refine norm_ (a' := ?_) ?_ ?_
                  rotate_left
                  · show Act.put _ (some 18) _ = _
                    simp only [Act.put, List.setIfInBounds_toArray, List.set_cons_zero, List.set_cons_succ, i64_w, i32_w]
                    rfl
                  refine pure_ (i := 7) (N := some 19) (v := ?_) (a' := ?_) #[true, true, true, true, true, true, true, true] rfl rfl (any_of HT_.out (by kernel_rfl)) (fun _ _ _ h => h) (Or.inl ⟨by rfl, ?_⟩) ?_ ?_
                  rotate_left
                  · intro w'
                    go_simp
                    with_reducible rfl
                  rotate_left
                  · simp only [Act.put, List.setIfInBounds_toArray, List.set_cons_zero, List.set_cons_succ, i64_w, i32_w]
                    rfl
                  refine done_ (done_of HT_.out (by kernel_rfl)) ?_
                  have p382 : 0 ≤ (x5_1 : Int) := of_decide_eq_true (by first | (with_reducible assumption) | assumption)
                  have q382 : x5_1 < (l0.length : Int) := of_decide_eq_true (by first | (with_reducible assumption) | assumption)
                  obtain ⟨ad382, e382, hx382_0, hx382_1, hx382_2, hx382_3⟩ := at_T47 HR0.out x5_1 p382 q382
                  obtain rfl : ad380 = ad382 := (by injection e382)
                  replace hx382_0 := (HB.out.cell (World.block_lt_of_cell? w _ hx382_0)).trans hx382_0
                  replace hx382_1 := (HB.out.cell (World.block_lt_of_cell? w _ hx382_1)).trans hx382_1
                  replace hx382_2 := (HB.out.cell (World.block_lt_of_cell? w _ hx382_2)).trans hx382_2
                  replace hx382_3 := (HB.out.cell (World.block_lt_of_cell? w _ hx382_3)).trans hx382_3
                  replace p382 := eq_true p382
                  replace q382 := eq_true q382
                  try go_wp2
                  have n0_ := Aside0.mk (below_drew1 HB.out)
                  clear HB
                  have HB := n0_
                  clear n0_
                  have p383 : 0 ≤ (x5_1 : Int) := of_decide_eq_true (by first | (with_reducible assumption) | assumption)
                  have q383 : x5_1 < (l0.length : Int) := of_decide_eq_true (by first | (with_reducible assumption) | assumption)
                  obtain ⟨ad383, e383, hx383_0, hx383_1, hx383_2, hx383_3⟩ := at_T47 HR0.out x5_1 p383 q383
                  have hw383_3 := hx383_3
                  have hw383_2 := hx383_2
                  have hw383_1 := hx383_1
                  have hw383_0 := hx383_0
                  obtain rfl : ad380 = ad383 := (by injection e383)
                  replace hx383_0 := (HB.out.cell (World.block_lt_of_cell? w _ hx383_0)).trans hx383_0
                  replace hx383_1 := (HB.out.cell (World.block_lt_of_cell? w _ hx383_1)).trans hx383_1
                  replace hx383_2 := (HB.out.cell (World.block_lt_of_cell? w _ hx383_2)).trans hx383_2
                  replace hx383_3 := (HB.out.cell (World.block_lt_of_cell? w _ hx383_3)).trans hx383_3
                  replace p383 := eq_true p383
                  replace q383 := eq_true q383
                  refine start_ (n := 8) (S := fun w' => w'.cell? (ad380.add ((x5_1).toNat * 4)) = some (.string ((rd_T47 l0 x5_1).f0)) ∧ w'.cell? ⟨(ad380.add ((x5_1).toNat * 4)).block, (ad380.add ((x5_1).toNat * 4)).off + 1, none⟩ = some (.int .i64 ((rd_T47 l0 x5_1).f1)) ∧ w'.cell? ⟨(ad380.add ((x5_1).toNat * 4)).block, (ad380.add ((x5_1).toNat * 4)).off + 2, none⟩ = some (.string ((rd_T47 l0 x5_1).f2)) ∧ w'.cell? ⟨(ad380.add ((x5_1).toNat * 4)).block, (ad380.add ((x5_1).toNat * 4)).off + 3, none⟩ = some (.bool ((rd_T47 l0 x5_1).f3))) (ds := []) #[false, false, false, false, false, false, false, false] (by kernel_rfl) rfl rfl ⟨((HB.out.cell (World.block_lt_of_cell? w _ hw383_0)).trans hw383_0), ((HB.out.cell (World.block_lt_of_cell? w _ hw383_1)).trans hw383_1), ((HB.out.cell (World.block_lt_of_cell? w _ hw383_2)).trans hw383_2), ((HB.out.cell (World.block_lt_of_cell? w _ hw383_3)).trans hw383_3)⟩ (fun hHeld => ?_); refine with_tabW laws_heldEntryS.tab10 laws_heldEntryS.bits10 (fun HT_ HW_ => ?_)
                  generalize w12.drew = w13 at HB hx383_0 hx383_1 hx383_2 hx383_3 hHeld ⊢
                  refine pure_ (i := 0) (N := some 31) (v := ?_) (a' := ?_) #[true, false, false, false, false, false, false, false] rfl rfl (any_of HT_.out (by kernel_rfl)) (fun _ _ _ h => h) (Or.inl ⟨by rfl, ?_⟩) ?_ ?_
                  rotate_left
                  · intro w'
                    go_simp
                    with_reducible rfl
                  rotate_left
                  · simp only [Act.put, List.setIfInBounds_toArray, List.set_cons_zero, List.set_cons_succ, i64_w, i32_w]
                    rfl
                  refine pure_ (i := 1) (N := some 32) (v := ?_) (a' := ?_) #[true, true, false, false, false, false, false, false] rfl rfl (any_of HT_.out (by kernel_rfl)) (fun _ _ _ h => h) (Or.inl ⟨by rfl, ?_⟩) ?_ ?_
                  rotate_left
                  · intro w'
                    go_simp
                    with_reducible rfl
                  rotate_left
                  · simp only [Act.put, List.setIfInBounds_toArray, List.set_cons_zero, List.set_cons_succ, i64_w, i32_w]
                    rfl
                  refine pure_ (i := 2) (N := some 33) (v := ?_) (a' := ?_) #[true, true, true, false, false, false, false, false] rfl rfl (any_of HT_.out (by kernel_rfl)) (fun _ _ _ h => h) (Or.inl ⟨by rfl, ?_⟩) ?_ ?_
                  rotate_left
                  · intro w'
                    go_simp
                    with_reducible rfl
                  rotate_left
                  · simp only [Act.put, List.setIfInBounds_toArray, List.set_cons_zero, List.set_cons_succ, i64_w, i32_w]
                    rfl
                  refine pure_ (i := 3) (N := some 34) (v := ?_) (a' := ?_) #[true, true, true, true, false, false, false, false] rfl rfl (any_of HT_.out (by kernel_rfl)) (fun _ _ _ h => h) (Or.inl ⟨by rfl, ?_⟩) ?_ ?_
                  rotate_left
                  · intro w'
                    go_simp
                    with_reducible rfl
                  rotate_left
                  · simp only [Act.put, List.setIfInBounds_toArray, List.set_cons_zero, List.set_cons_succ, i64_w, i32_w]
                    rfl
                  refine pure_ (i := 5) (N := some 36) (v := ?_) (a' := ?_) #[true, true, true, true, false, true, false, false] rfl rfl (any_of HT_.out (by kernel_rfl)) (fun _ _ _ h => h) (Or.inl ⟨by rfl, ?_⟩) ?_ ?_
                  rotate_left
                  · intro w'
                    go_simp
                    with_reducible rfl
                  rotate_left
                  · simp only [Act.put, List.setIfInBounds_toArray, List.set_cons_zero, List.set_cons_succ, i64_w, i32_w]
                    rfl
                  refine take_ (i := 4) (N := some 35) (v := ?_) (a' := ?_) #[true, true, true, true, true, true, false, false] rfl rfl (take_ofW HT_.out HW_.out (by kernel_rfl)) (fun _ _ _ h => h) (Or.inl ⟨by rfl, ?_⟩) hHeld ?_ ?_
                  rotate_left
                  · rintro w' ⟨s0, s1, s2, s3⟩
                    go_simp
                    with_reducible rfl
                  rotate_left
                  · simp only [Act.put, List.setIfInBounds_toArray, List.set_cons_zero, List.set_cons_succ, i64_w, i32_w]
                    rfl
                  refine one_ (i := 6) (N := some 37) #[true, true, true, true, true, true, true, false] rfl rfl (one_of HT_.out (by kernel_rfl)) (by decide) (fun K hK => ?_)
                  refine goes_ Tryd.func51 (by kernel_rfl) rfl #[.int .i64 (wrap64 ((wrap64 (x1_1 + 1)) + 1))] (by rfl) rfl rfl (by (try simp only [List.map_toArray, List.map_cons, List.map_nil]); first | done | rfl | (simp only [List.length_drop, List.length_take]; rfl)) ?_
                  with_reducible refine (laws_markText.calls k1 (wrap64 ((wrap64 (x1_1 + 1)) + 1)) t384 _ A8.out).mono ?_
                  rintro e w14 ⟨rfl, hb⟩
                  refine ⟨_, rfl, ?_⟩
                  have n0_ := Aside0.mk (below_step (by repeat (first | (with_reducible first | exact HB.out | apply below_alloc | apply pw_below_drewN | apply below_drew1) | exact HB.out)) hb)
                  clear HB
                  have HB := n0_
                  clear n0_
                  (try clear hb)
                  (try clear hb2)
                  (try clear hk)
                  (try clear hi)
                  refine hK.out _ _ ⟨((HB.out.cell (World.block_lt_of_cell? w _ hw383_0)).trans hw383_0), ((HB.out.cell (World.block_lt_of_cell? w _ hw383_1)).trans hw383_1), ((HB.out.cell (World.block_lt_of_cell? w _ hw383_2)).trans hw383_2), ((HB.out.cell (World.block_lt_of_cell? w _ hw383_3)).trans hw383_3)⟩ (fun hHeld => ?_)
                  clear hK K
                  refine norm_ (a' := ?_) ?_ ?_
                  rotate_left
                  · show Act.put _ (some 37) _ = _
                    simp only [Act.put, List.setIfInBounds_toArray, List.set_cons_zero, List.set_cons_succ, i64_w, i32_w]
                    rfl
                  refine pure_ (i := 7) (N := some 38) (v := ?_) (a' := ?_) #[true, true, true, true, true, true, true, true] rfl rfl (any_of HT_.out (by kernel_rfl)) (fun _ _ _ h => h) (Or.inl ⟨by rfl, ?_⟩) ?_ ?_
                  rotate_left
                  · intro w'
                    go_simp
                    with_reducible rfl
                  rotate_left
                  · simp only [Act.put, List.setIfInBounds_toArray, List.set_cons_zero, List.set_cons_succ, i64_w, i32_w]
                    rfl
                  refine done_ (done_of HT_.out (by kernel_rfl)) ?_
                  have p385 : 0 ≤ (x5_1 : Int) := of_decide_eq_true (by first | (with_reducible assumption) | assumption)
                  have q385 : x5_1 < (l0.length : Int) := of_decide_eq_true (by first | (with_reducible assumption) | assumption)
                  obtain ⟨ad385, e385, hx385_0, hx385_1, hx385_2, hx385_3⟩ := at_T47 HR0.out x5_1 p385 q385
                  obtain rfl : ad380 = ad385 := (by injection e385)
                  replace hx385_0 := (HB.out.cell (World.block_lt_of_cell? w _ hx385_0)).trans hx385_0
                  replace hx385_1 := (HB.out.cell (World.block_lt_of_cell? w _ hx385_1)).trans hx385_1
                  replace hx385_2 := (HB.out.cell (World.block_lt_of_cell? w _ hx385_2)).trans hx385_2
                  replace hx385_3 := (HB.out.cell (World.block_lt_of_cell? w _ hx385_3)).trans hx385_3
                  replace p385 := eq_true p385
                  replace q385 := eq_true q385
                  try go_wp2
                  go_ret
                  exact ⟨by first | rfl | (simp [errW_none, errW_some] <;> rfl) | (simp [*, errW_none, errW_some] <;> rfl), by repeat (first | (with_reducible first | exact HB.out | apply below_alloc | apply pw_below_drewN | apply below_drew1) | exact HB.out)⟩
                · rw [if_neg c10] at H
                  have c10b0 : (((rd_T47 l0 x5_1).f3) != ((Int.tmod (wrap64 ((wrap64 ((wrap64 (x1_1 + 1)) + 1)) + 1)) 3) == 0)) = false := by simpa using c10
                  (try (have c10b1 : decide (((rd_T47 l0 x5_1).f3) = ((Int.tmod (wrap64 ((wrap64 ((wrap64 (x1_1 + 1)) + 1)) + 1)) 3) == 0)) = true := by simpa using c10))
                  (try (have c10b2 : (((rd_T47 l0 x5_1).f3) == ((Int.tmod (wrap64 ((wrap64 ((wrap64 (x1_1 + 1)) + 1)) + 1)) 3) == 0)) = true := by simpa using c10))
                  clear c10
                  have H' := Aside0.mk H
                  clear H
                  try go_wp2
                  have n0_ := Aside0.mk (below_drew1 HB.out)
                  clear HB
                  have HB := n0_
                  clear n0_
                  have p380 : 0 ≤ (x5_1 : Int) := of_decide_eq_true (by first | (with_reducible assumption) | assumption)
                  have q380 : x5_1 < (l0.length : Int) := of_decide_eq_true (by first | (with_reducible assumption) | assumption)
                  obtain ⟨ad380, e380, hx380_0, hx380_1, hx380_2, hx380_3⟩ := at_T47 HR0.out x5_1 p380 q380
                  have hw380_3 := hx380_3
                  have hw380_2 := hx380_2
                  have hw380_1 := hx380_1
                  have hw380_0 := hx380_0
                  cases e380
                  replace hx380_0 := (HB.out.cell (World.block_lt_of_cell? w _ hx380_0)).trans hx380_0
                  replace hx380_1 := (HB.out.cell (World.block_lt_of_cell? w _ hx380_1)).trans hx380_1
                  replace hx380_2 := (HB.out.cell (World.block_lt_of_cell? w _ hx380_2)).trans hx380_2
                  replace hx380_3 := (HB.out.cell (World.block_lt_of_cell? w _ hx380_3)).trans hx380_3
                  replace p380 := eq_true p380
                  replace q380 := eq_true q380
                  refine start_ (n := 8) (S := fun w' => w'.cell? (ad380.add ((x5_1).toNat * 4)) = some (.string ((rd_T47 l0 x5_1).f0)) ∧ w'.cell? ⟨(ad380.add ((x5_1).toNat * 4)).block, (ad380.add ((x5_1).toNat * 4)).off + 1, none⟩ = some (.int .i64 ((rd_T47 l0 x5_1).f1)) ∧ w'.cell? ⟨(ad380.add ((x5_1).toNat * 4)).block, (ad380.add ((x5_1).toNat * 4)).off + 2, none⟩ = some (.string ((rd_T47 l0 x5_1).f2)) ∧ w'.cell? ⟨(ad380.add ((x5_1).toNat * 4)).block, (ad380.add ((x5_1).toNat * 4)).off + 3, none⟩ = some (.bool ((rd_T47 l0 x5_1).f3))) (ds := []) #[false, false, false, false, false, false, false, false] (by kernel_rfl) rfl rfl ⟨((HB.out.cell (World.block_lt_of_cell? w _ hw380_0)).trans hw380_0), ((HB.out.cell (World.block_lt_of_cell? w _ hw380_1)).trans hw380_1), ((HB.out.cell (World.block_lt_of_cell? w _ hw380_2)).trans hw380_2), ((HB.out.cell (World.block_lt_of_cell? w _ hw380_3)).trans hw380_3)⟩ (fun hHeld => ?_); refine with_tabW laws_heldEntryS.tab4 laws_heldEntryS.bits4 (fun HT_ HW_ => ?_)
                  generalize wr.drew = w15 at HB hx380_0 hx380_1 hx380_2 hx380_3 hHeld ⊢
                  refine pure_ (i := 0) (N := some 12) (v := ?_) (a' := ?_) #[true, false, false, false, false, false, false, false] rfl rfl (any_of HT_.out (by kernel_rfl)) (fun _ _ _ h => h) (Or.inl ⟨by rfl, ?_⟩) ?_ ?_
                  rotate_left
                  · intro w'
                    go_simp
                    with_reducible rfl
                  rotate_left
                  · simp only [Act.put, List.setIfInBounds_toArray, List.set_cons_zero, List.set_cons_succ, i64_w, i32_w]
                    rfl
                  refine pure_ (i := 1) (N := some 13) (v := ?_) (a' := ?_) #[true, true, false, false, false, false, false, false] rfl rfl (any_of HT_.out (by kernel_rfl)) (fun _ _ _ h => h) (Or.inl ⟨by rfl, ?_⟩) ?_ ?_
                  rotate_left
                  · intro w'
                    go_simp
                    with_reducible rfl
                  rotate_left
                  · simp only [Act.put, List.setIfInBounds_toArray, List.set_cons_zero, List.set_cons_succ, i64_w, i32_w]
                    rfl
                  refine pure_ (i := 2) (N := some 14) (v := ?_) (a' := ?_) #[true, true, true, false, false, false, false, false] rfl rfl (any_of HT_.out (by kernel_rfl)) (fun _ _ _ h => h) (Or.inl ⟨by rfl, ?_⟩) ?_ ?_
                  rotate_left
                  · intro w'
                    go_simp
                    with_reducible rfl
                  rotate_left
                  · simp only [Act.put, List.setIfInBounds_toArray, List.set_cons_zero, List.set_cons_succ, i64_w, i32_w]
                    rfl
                  refine pure_ (i := 3) (N := some 15) (v := ?_) (a' := ?_) #[true, true, true, true, false, false, false, false] rfl rfl (any_of HT_.out (by kernel_rfl)) (fun _ _ _ h => h) (Or.inl ⟨by rfl, ?_⟩) ?_ ?_
                  rotate_left
                  · intro w'
                    go_simp
                    with_reducible rfl
                  rotate_left
                  · simp only [Act.put, List.setIfInBounds_toArray, List.set_cons_zero, List.set_cons_succ, i64_w, i32_w]
                    rfl
                  refine pure_ (i := 5) (N := some 17) (v := ?_) (a' := ?_) #[true, true, true, true, false, true, false, false] rfl rfl (any_of HT_.out (by kernel_rfl)) (fun _ _ _ h => h) (Or.inl ⟨by rfl, ?_⟩) ?_ ?_
                  rotate_left
                  · intro w'
                    go_simp
                    with_reducible rfl
                  rotate_left
                  · simp only [Act.put, List.setIfInBounds_toArray, List.set_cons_zero, List.set_cons_succ, i64_w, i32_w]
                    rfl
                  refine take_ (i := 4) (N := some 16) (v := ?_) (a' := ?_) #[true, true, true, true, true, true, false, false] rfl rfl (take_ofW HT_.out HW_.out (by kernel_rfl)) (fun _ _ _ h => h) (Or.inl ⟨by rfl, ?_⟩) hHeld ?_ ?_
                  rotate_left
                  · rintro w' ⟨s0, s1, s2, s3⟩
                    go_simp
                    with_reducible rfl
                  rotate_left
                  · simp only [Act.put, List.setIfInBounds_toArray, List.set_cons_zero, List.set_cons_succ, i64_w, i32_w]
                    rfl
                  refine one_ (i := 6) (N := some 18) #[true, true, true, true, true, true, true, false] rfl rfl (one_of HT_.out (by kernel_rfl)) (by decide) (fun K hK => ?_)
                  refine goes_ Tryd.func51 (by kernel_rfl) rfl #[.int .i64 x1_1] (by rfl) rfl rfl (by (try simp only [List.map_toArray, List.map_cons, List.map_nil]); first | done | rfl | (simp only [List.length_drop, List.length_take]; rfl)) ?_
                  with_reducible refine (laws_markText.calls k1 x1_1 t381 _ A5.out).mono ?_
                  rintro e w16 ⟨rfl, hb⟩
                  refine ⟨_, rfl, ?_⟩
                  have n0_ := Aside0.mk (below_step (by repeat (first | (with_reducible first | exact HB.out | apply below_alloc | apply pw_below_drewN | apply below_drew1) | exact HB.out)) hb)
                  clear HB
                  have HB := n0_
                  clear n0_
                  (try clear hb)
                  (try clear hb2)
                  (try clear hk)
                  (try clear hi)
                  refine hK.out _ _ ⟨((HB.out.cell (World.block_lt_of_cell? w _ hw380_0)).trans hw380_0), ((HB.out.cell (World.block_lt_of_cell? w _ hw380_1)).trans hw380_1), ((HB.out.cell (World.block_lt_of_cell? w _ hw380_2)).trans hw380_2), ((HB.out.cell (World.block_lt_of_cell? w _ hw380_3)).trans hw380_3)⟩ (fun hHeld => ?_)
                  clear hK K
                  refine norm_ (a' := ?_) ?_ ?_
                  rotate_left
                  · show Act.put _ (some 18) _ = _
                    simp only [Act.put, List.setIfInBounds_toArray, List.set_cons_zero, List.set_cons_succ, i64_w, i32_w]
                    rfl
                  refine pure_ (i := 7) (N := some 19) (v := ?_) (a' := ?_) #[true, true, true, true, true, true, true, true] rfl rfl (any_of HT_.out (by kernel_rfl)) (fun _ _ _ h => h) (Or.inl ⟨by rfl, ?_⟩) ?_ ?_
                  rotate_left
                  · intro w'
                    go_simp
                    with_reducible rfl
                  rotate_left
                  · simp only [Act.put, List.setIfInBounds_toArray, List.set_cons_zero, List.set_cons_succ, i64_w, i32_w]
                    rfl
                  refine done_ (done_of HT_.out (by kernel_rfl)) ?_
                  have p382 : 0 ≤ (x5_1 : Int) := of_decide_eq_true (by first | (with_reducible assumption) | assumption)
                  have q382 : x5_1 < (l0.length : Int) := of_decide_eq_true (by first | (with_reducible assumption) | assumption)
                  obtain ⟨ad382, e382, hx382_0, hx382_1, hx382_2, hx382_3⟩ := at_T47 HR0.out x5_1 p382 q382
                  obtain rfl : ad380 = ad382 := (by injection e382)
                  replace hx382_0 := (HB.out.cell (World.block_lt_of_cell? w _ hx382_0)).trans hx382_0
                  replace hx382_1 := (HB.out.cell (World.block_lt_of_cell? w _ hx382_1)).trans hx382_1
                  replace hx382_2 := (HB.out.cell (World.block_lt_of_cell? w _ hx382_2)).trans hx382_2
                  replace hx382_3 := (HB.out.cell (World.block_lt_of_cell? w _ hx382_3)).trans hx382_3
                  replace p382 := eq_true p382
                  replace q382 := eq_true q382
                  try go_wp2
                  have n0_ := Aside0.mk (below_drew1 HB.out)
                  clear HB
                  have HB := n0_
                  clear n0_
                  have p383 : 0 ≤ (x5_1 : Int) := of_decide_eq_true (by first | (with_reducible assumption) | assumption)
                  have q383 : x5_1 < (l0.length : Int) := of_decide_eq_true (by first | (with_reducible assumption) | assumption)
                  obtain ⟨ad383, e383, hx383_0, hx383_1, hx383_2, hx383_3⟩ := at_T47 HR0.out x5_1 p383 q383
                  have hw383_3 := hx383_3
                  have hw383_2 := hx383_2
                  have hw383_1 := hx383_1
                  have hw383_0 := hx383_0
                  obtain rfl : ad380 = ad383 := (by injection e383)
                  replace hx383_0 := (HB.out.cell (World.block_lt_of_cell? w _ hx383_0)).trans hx383_0
                  replace hx383_1 := (HB.out.cell (World.block_lt_of_cell? w _ hx383_1)).trans hx383_1
                  replace hx383_2 := (HB.out.cell (World.block_lt_of_cell? w _ hx383_2)).trans hx383_2
                  replace hx383_3 := (HB.out.cell (World.block_lt_of_cell? w _ hx383_3)).trans hx383_3
                  replace p383 := eq_true p383
                  replace q383 := eq_true q383
                  refine start_ (n := 8) (S := fun w' => w'.cell? (ad380.add ((x5_1).toNat * 4)) = some (.string ((rd_T47 l0 x5_1).f0)) ∧ w'.cell? ⟨(ad380.add ((x5_1).toNat * 4)).block, (ad380.add ((x5_1).toNat * 4)).off + 1, none⟩ = some (.int .i64 ((rd_T47 l0 x5_1).f1)) ∧ w'.cell? ⟨(ad380.add ((x5_1).toNat * 4)).block, (ad380.add ((x5_1).toNat * 4)).off + 2, none⟩ = some (.string ((rd_T47 l0 x5_1).f2)) ∧ w'.cell? ⟨(ad380.add ((x5_1).toNat * 4)).block, (ad380.add ((x5_1).toNat * 4)).off + 3, none⟩ = some (.bool ((rd_T47 l0 x5_1).f3))) (ds := []) #[false, false, false, false, false, false, false, false] (by kernel_rfl) rfl rfl ⟨((HB.out.cell (World.block_lt_of_cell? w _ hw383_0)).trans hw383_0), ((HB.out.cell (World.block_lt_of_cell? w _ hw383_1)).trans hw383_1), ((HB.out.cell (World.block_lt_of_cell? w _ hw383_2)).trans hw383_2), ((HB.out.cell (World.block_lt_of_cell? w _ hw383_3)).trans hw383_3)⟩ (fun hHeld => ?_); refine with_tabW laws_heldEntryS.tab10 laws_heldEntryS.bits10 (fun HT_ HW_ => ?_)
                  generalize w16.drew = w17 at HB hx383_0 hx383_1 hx383_2 hx383_3 hHeld ⊢
                  refine pure_ (i := 0) (N := some 31) (v := ?_) (a' := ?_) #[true, false, false, false, false, false, false, false] rfl rfl (any_of HT_.out (by kernel_rfl)) (fun _ _ _ h => h) (Or.inl ⟨by rfl, ?_⟩) ?_ ?_
                  rotate_left
                  · intro w'
                    go_simp
                    with_reducible rfl
                  rotate_left
                  · simp only [Act.put, List.setIfInBounds_toArray, List.set_cons_zero, List.set_cons_succ, i64_w, i32_w]
                    rfl
                  refine pure_ (i := 1) (N := some 32) (v := ?_) (a' := ?_) #[true, true, false, false, false, false, false, false] rfl rfl (any_of HT_.out (by kernel_rfl)) (fun _ _ _ h => h) (Or.inl ⟨by rfl, ?_⟩) ?_ ?_
                  rotate_left
                  · intro w'
                    go_simp
                    with_reducible rfl
                  rotate_left
                  · simp only [Act.put, List.setIfInBounds_toArray, List.set_cons_zero, List.set_cons_succ, i64_w, i32_w]
                    rfl
                  refine pure_ (i := 2) (N := some 33) (v := ?_) (a' := ?_) #[true, true, true, false, false, false, false, false] rfl rfl (any_of HT_.out (by kernel_rfl)) (fun _ _ _ h => h) (Or.inl ⟨by rfl, ?_⟩) ?_ ?_
                  rotate_left
                  · intro w'
                    go_simp
                    with_reducible rfl
                  rotate_left
                  · simp only [Act.put, List.setIfInBounds_toArray, List.set_cons_zero, List.set_cons_succ, i64_w, i32_w]
                    rfl
                  refine pure_ (i := 3) (N := some 34) (v := ?_) (a' := ?_) #[true, true, true, true, false, false, false, false] rfl rfl (any_of HT_.out (by kernel_rfl)) (fun _ _ _ h => h) (Or.inl ⟨by rfl, ?_⟩) ?_ ?_
                  rotate_left
                  · intro w'
                    go_simp
                    with_reducible rfl
                  rotate_left
                  · simp only [Act.put, List.setIfInBounds_toArray, List.set_cons_zero, List.set_cons_succ, i64_w, i32_w]
                    rfl
                  refine pure_ (i := 5) (N := some 36) (v := ?_) (a' := ?_) #[true, true, true, true, false, true, false, false] rfl rfl (any_of HT_.out (by kernel_rfl)) (fun _ _ _ h => h) (Or.inl ⟨by rfl, ?_⟩) ?_ ?_
                  rotate_left
                  · intro w'
                    go_simp
                    with_reducible rfl
                  rotate_left
                  · simp only [Act.put, List.setIfInBounds_toArray, List.set_cons_zero, List.set_cons_succ, i64_w, i32_w]
                    rfl
                  refine take_ (i := 4) (N := some 35) (v := ?_) (a' := ?_) #[true, true, true, true, true, true, false, false] rfl rfl (take_ofW HT_.out HW_.out (by kernel_rfl)) (fun _ _ _ h => h) (Or.inl ⟨by rfl, ?_⟩) hHeld ?_ ?_
                  rotate_left
                  · rintro w' ⟨s0, s1, s2, s3⟩
                    go_simp
                    with_reducible rfl
                  rotate_left
                  · simp only [Act.put, List.setIfInBounds_toArray, List.set_cons_zero, List.set_cons_succ, i64_w, i32_w]
                    rfl
                  refine one_ (i := 6) (N := some 37) #[true, true, true, true, true, true, true, false] rfl rfl (one_of HT_.out (by kernel_rfl)) (by decide) (fun K hK => ?_)
                  refine goes_ Tryd.func51 (by kernel_rfl) rfl #[.int .i64 (wrap64 ((wrap64 (x1_1 + 1)) + 1))] (by rfl) rfl rfl (by (try simp only [List.map_toArray, List.map_cons, List.map_nil]); first | done | rfl | (simp only [List.length_drop, List.length_take]; rfl)) ?_
                  with_reducible refine (laws_markText.calls k1 (wrap64 ((wrap64 (x1_1 + 1)) + 1)) t384 _ A8.out).mono ?_
                  rintro e w18 ⟨rfl, hb⟩
                  refine ⟨_, rfl, ?_⟩
                  have n0_ := Aside0.mk (below_step (by repeat (first | (with_reducible first | exact HB.out | apply below_alloc | apply pw_below_drewN | apply below_drew1) | exact HB.out)) hb)
                  clear HB
                  have HB := n0_
                  clear n0_
                  (try clear hb)
                  (try clear hb2)
                  (try clear hk)
                  (try clear hi)
                  refine hK.out _ _ ⟨((HB.out.cell (World.block_lt_of_cell? w _ hw383_0)).trans hw383_0), ((HB.out.cell (World.block_lt_of_cell? w _ hw383_1)).trans hw383_1), ((HB.out.cell (World.block_lt_of_cell? w _ hw383_2)).trans hw383_2), ((HB.out.cell (World.block_lt_of_cell? w _ hw383_3)).trans hw383_3)⟩ (fun hHeld => ?_)
                  clear hK K
                  refine norm_ (a' := ?_) ?_ ?_
                  rotate_left
                  · show Act.put _ (some 37) _ = _
                    simp only [Act.put, List.setIfInBounds_toArray, List.set_cons_zero, List.set_cons_succ, i64_w, i32_w]
                    rfl
                  refine pure_ (i := 7) (N := some 38) (v := ?_) (a' := ?_) #[true, true, true, true, true, true, true, true] rfl rfl (any_of HT_.out (by kernel_rfl)) (fun _ _ _ h => h) (Or.inl ⟨by rfl, ?_⟩) ?_ ?_
                  rotate_left
                  · intro w'
                    go_simp
                    with_reducible rfl
                  rotate_left
                  · simp only [Act.put, List.setIfInBounds_toArray, List.set_cons_zero, List.set_cons_succ, i64_w, i32_w]
                    rfl
                  refine done_ (done_of HT_.out (by kernel_rfl)) ?_
                  have p385 : 0 ≤ (x5_1 : Int) := of_decide_eq_true (by first | (with_reducible assumption) | assumption)
                  have q385 : x5_1 < (l0.length : Int) := of_decide_eq_true (by first | (with_reducible assumption) | assumption)
                  obtain ⟨ad385, e385, hx385_0, hx385_1, hx385_2, hx385_3⟩ := at_T47 HR0.out x5_1 p385 q385
                  obtain rfl : ad380 = ad385 := (by injection e385)
                  replace hx385_0 := (HB.out.cell (World.block_lt_of_cell? w _ hx385_0)).trans hx385_0
                  replace hx385_1 := (HB.out.cell (World.block_lt_of_cell? w _ hx385_1)).trans hx385_1
                  replace hx385_2 := (HB.out.cell (World.block_lt_of_cell? w _ hx385_2)).trans hx385_2
                  replace hx385_3 := (HB.out.cell (World.block_lt_of_cell? w _ hx385_3)).trans hx385_3
                  replace p385 := eq_true p385
                  replace q385 := eq_true q385
                  try go_wp2
                  go_roundg k1
                  case measure => have := HK1.out; omega
                  case rel => exact ⟨(wrap64 ((wrap64 ((wrap64 ((wrap64 (x1_1 + 1)) + 1)) + 1)) + 1)), (wrap64 (x5_1 + 1)), (by first | rfl | (simp; done) | (simp [*]; done)), (by first | rfl | (simp; done) | (simp [*]; done)), H', ⟨by have := HK1.out; omega⟩, ⟨by repeat (first | (with_reducible first | exact HB.out | apply below_alloc | apply pw_below_drewN | apply below_drew1) | exact HB.out)⟩⟩
              · rw [if_neg c9] at H
                have c9b0 : (((rd_T47 l0 x5_1).f2).toList == t384.toList) = false := beq_eq_false_iff_ne.mpr c9
                have c9b1 : (((rd_T47 l0 x5_1).f2).toList != t384.toList) = true := bne_iff_ne.mpr c9
                obtain rfl := Option.some.inj H
                try go_wp2
                have n0_ := Aside0.mk (below_drew1 HB.out)
                clear HB
                have HB := n0_
                clear n0_
                have p380 : 0 ≤ (x5_1 : Int) := of_decide_eq_true (by first | (with_reducible assumption) | assumption)
                have q380 : x5_1 < (l0.length : Int) := of_decide_eq_true (by first | (with_reducible assumption) | assumption)
                obtain ⟨ad380, e380, hx380_0, hx380_1, hx380_2, hx380_3⟩ := at_T47 HR0.out x5_1 p380 q380
                have hw380_3 := hx380_3
                have hw380_2 := hx380_2
                have hw380_1 := hx380_1
                have hw380_0 := hx380_0
                cases e380
                replace hx380_0 := (HB.out.cell (World.block_lt_of_cell? w _ hx380_0)).trans hx380_0
                replace hx380_1 := (HB.out.cell (World.block_lt_of_cell? w _ hx380_1)).trans hx380_1
                replace hx380_2 := (HB.out.cell (World.block_lt_of_cell? w _ hx380_2)).trans hx380_2
                replace hx380_3 := (HB.out.cell (World.block_lt_of_cell? w _ hx380_3)).trans hx380_3
                replace p380 := eq_true p380
                replace q380 := eq_true q380
                refine start_ (n := 8) (S := fun w' => w'.cell? (ad380.add ((x5_1).toNat * 4)) = some (.string ((rd_T47 l0 x5_1).f0)) ∧ w'.cell? ⟨(ad380.add ((x5_1).toNat * 4)).block, (ad380.add ((x5_1).toNat * 4)).off + 1, none⟩ = some (.int .i64 ((rd_T47 l0 x5_1).f1)) ∧ w'.cell? ⟨(ad380.add ((x5_1).toNat * 4)).block, (ad380.add ((x5_1).toNat * 4)).off + 2, none⟩ = some (.string ((rd_T47 l0 x5_1).f2)) ∧ w'.cell? ⟨(ad380.add ((x5_1).toNat * 4)).block, (ad380.add ((x5_1).toNat * 4)).off + 3, none⟩ = some (.bool ((rd_T47 l0 x5_1).f3))) (ds := []) #[false, false, false, false, false, false, false, false] (by kernel_rfl) rfl rfl ⟨((HB.out.cell (World.block_lt_of_cell? w _ hw380_0)).trans hw380_0), ((HB.out.cell (World.block_lt_of_cell? w _ hw380_1)).trans hw380_1), ((HB.out.cell (World.block_lt_of_cell? w _ hw380_2)).trans hw380_2), ((HB.out.cell (World.block_lt_of_cell? w _ hw380_3)).trans hw380_3)⟩ (fun hHeld => ?_); refine with_tabW laws_heldEntryS.tab4 laws_heldEntryS.bits4 (fun HT_ HW_ => ?_)
                generalize wr.drew = w19 at HB hx380_0 hx380_1 hx380_2 hx380_3 hHeld ⊢
                refine pure_ (i := 0) (N := some 12) (v := ?_) (a' := ?_) #[true, false, false, false, false, false, false, false] rfl rfl (any_of HT_.out (by kernel_rfl)) (fun _ _ _ h => h) (Or.inl ⟨by rfl, ?_⟩) ?_ ?_
                rotate_left
                · intro w'
                  go_simp
                  with_reducible rfl
                rotate_left
                · simp only [Act.put, List.setIfInBounds_toArray, List.set_cons_zero, List.set_cons_succ, i64_w, i32_w]
                  rfl
                refine pure_ (i := 1) (N := some 13) (v := ?_) (a' := ?_) #[true, true, false, false, false, false, false, false] rfl rfl (any_of HT_.out (by kernel_rfl)) (fun _ _ _ h => h) (Or.inl ⟨by rfl, ?_⟩) ?_ ?_
                rotate_left
                · intro w'
                  go_simp
                  with_reducible rfl
                rotate_left
                · simp only [Act.put, List.setIfInBounds_toArray, List.set_cons_zero, List.set_cons_succ, i64_w, i32_w]
                  rfl
                refine pure_ (i := 2) (N := some 14) (v := ?_) (a' := ?_) #[true, true, true, false, false, false, false, false] rfl rfl (any_of HT_.out (by kernel_rfl)) (fun _ _ _ h => h) (Or.inl ⟨by rfl, ?_⟩) ?_ ?_
                rotate_left
                · intro w'
                  go_simp
                  with_reducible rfl
                rotate_left
                · simp only [Act.put, List.setIfInBounds_toArray, List.set_cons_zero, List.set_cons_succ, i64_w, i32_w]
                  rfl
                refine pure_ (i := 3) (N := some 15) (v := ?_) (a' := ?_) #[true, true, true, true, false, false, false, false] rfl rfl (any_of HT_.out (by kernel_rfl)) (fun _ _ _ h => h) (Or.inl ⟨by rfl, ?_⟩) ?_ ?_
                rotate_left
                · intro w'
                  go_simp
                  with_reducible rfl
                rotate_left
                · simp only [Act.put, List.setIfInBounds_toArray, List.set_cons_zero, List.set_cons_succ, i64_w, i32_w]
                  rfl
                refine pure_ (i := 5) (N := some 17) (v := ?_) (a' := ?_) #[true, true, true, true, false, true, false, false] rfl rfl (any_of HT_.out (by kernel_rfl)) (fun _ _ _ h => h) (Or.inl ⟨by rfl, ?_⟩) ?_ ?_
                rotate_left
                · intro w'
                  go_simp
                  with_reducible rfl
                rotate_left
                · simp only [Act.put, List.setIfInBounds_toArray, List.set_cons_zero, List.set_cons_succ, i64_w, i32_w]
                  rfl
                refine take_ (i := 4) (N := some 16) (v := ?_) (a' := ?_) #[true, true, true, true, true, true, false, false] rfl rfl (take_ofW HT_.out HW_.out (by kernel_rfl)) (fun _ _ _ h => h) (Or.inl ⟨by rfl, ?_⟩) hHeld ?_ ?_
                rotate_left
                · rintro w' ⟨s0, s1, s2, s3⟩
                  go_simp
                  with_reducible rfl
                rotate_left
                · simp only [Act.put, List.setIfInBounds_toArray, List.set_cons_zero, List.set_cons_succ, i64_w, i32_w]
                  rfl
                refine one_ (i := 6) (N := some 18) #[true, true, true, true, true, true, true, false] rfl rfl (one_of HT_.out (by kernel_rfl)) (by decide) (fun K hK => ?_)
                refine goes_ Tryd.func51 (by kernel_rfl) rfl #[.int .i64 x1_1] (by rfl) rfl rfl (by (try simp only [List.map_toArray, List.map_cons, List.map_nil]); first | done | rfl | (simp only [List.length_drop, List.length_take]; rfl)) ?_
                with_reducible refine (laws_markText.calls k1 x1_1 t381 _ A5.out).mono ?_
                rintro e w20 ⟨rfl, hb⟩
                refine ⟨_, rfl, ?_⟩
                have n0_ := Aside0.mk (below_step (by repeat (first | (with_reducible first | exact HB.out | apply below_alloc | apply pw_below_drewN | apply below_drew1) | exact HB.out)) hb)
                clear HB
                have HB := n0_
                clear n0_
                (try clear hb)
                (try clear hb2)
                (try clear hk)
                (try clear hi)
                refine hK.out _ _ ⟨((HB.out.cell (World.block_lt_of_cell? w _ hw380_0)).trans hw380_0), ((HB.out.cell (World.block_lt_of_cell? w _ hw380_1)).trans hw380_1), ((HB.out.cell (World.block_lt_of_cell? w _ hw380_2)).trans hw380_2), ((HB.out.cell (World.block_lt_of_cell? w _ hw380_3)).trans hw380_3)⟩ (fun hHeld => ?_)
                clear hK K
                refine norm_ (a' := ?_) ?_ ?_
                rotate_left
                · show Act.put _ (some 18) _ = _
                  simp only [Act.put, List.setIfInBounds_toArray, List.set_cons_zero, List.set_cons_succ, i64_w, i32_w]
                  rfl
                refine pure_ (i := 7) (N := some 19) (v := ?_) (a' := ?_) #[true, true, true, true, true, true, true, true] rfl rfl (any_of HT_.out (by kernel_rfl)) (fun _ _ _ h => h) (Or.inl ⟨by rfl, ?_⟩) ?_ ?_
                rotate_left
                · intro w'
                  go_simp
                  with_reducible rfl
                rotate_left
                · simp only [Act.put, List.setIfInBounds_toArray, List.set_cons_zero, List.set_cons_succ, i64_w, i32_w]
                  rfl
                refine done_ (done_of HT_.out (by kernel_rfl)) ?_
                have p382 : 0 ≤ (x5_1 : Int) := of_decide_eq_true (by first | (with_reducible assumption) | assumption)
                have q382 : x5_1 < (l0.length : Int) := of_decide_eq_true (by first | (with_reducible assumption) | assumption)
                obtain ⟨ad382, e382, hx382_0, hx382_1, hx382_2, hx382_3⟩ := at_T47 HR0.out x5_1 p382 q382
                obtain rfl : ad380 = ad382 := (by injection e382)
                replace hx382_0 := (HB.out.cell (World.block_lt_of_cell? w _ hx382_0)).trans hx382_0
                replace hx382_1 := (HB.out.cell (World.block_lt_of_cell? w _ hx382_1)).trans hx382_1
                replace hx382_2 := (HB.out.cell (World.block_lt_of_cell? w _ hx382_2)).trans hx382_2
                replace hx382_3 := (HB.out.cell (World.block_lt_of_cell? w _ hx382_3)).trans hx382_3
                replace p382 := eq_true p382
                replace q382 := eq_true q382
                try go_wp2
                have n0_ := Aside0.mk (below_drew1 HB.out)
                clear HB
                have HB := n0_
                clear n0_
                have p383 : 0 ≤ (x5_1 : Int) := of_decide_eq_true (by first | (with_reducible assumption) | assumption)
                have q383 : x5_1 < (l0.length : Int) := of_decide_eq_true (by first | (with_reducible assumption) | assumption)
                obtain ⟨ad383, e383, hx383_0, hx383_1, hx383_2, hx383_3⟩ := at_T47 HR0.out x5_1 p383 q383
                have hw383_3 := hx383_3
                have hw383_2 := hx383_2
                have hw383_1 := hx383_1
                have hw383_0 := hx383_0
                obtain rfl : ad380 = ad383 := (by injection e383)
                replace hx383_0 := (HB.out.cell (World.block_lt_of_cell? w _ hx383_0)).trans hx383_0
                replace hx383_1 := (HB.out.cell (World.block_lt_of_cell? w _ hx383_1)).trans hx383_1
                replace hx383_2 := (HB.out.cell (World.block_lt_of_cell? w _ hx383_2)).trans hx383_2
                replace hx383_3 := (HB.out.cell (World.block_lt_of_cell? w _ hx383_3)).trans hx383_3
                replace p383 := eq_true p383
                replace q383 := eq_true q383
                refine start_ (n := 8) (S := fun w' => w'.cell? (ad380.add ((x5_1).toNat * 4)) = some (.string ((rd_T47 l0 x5_1).f0)) ∧ w'.cell? ⟨(ad380.add ((x5_1).toNat * 4)).block, (ad380.add ((x5_1).toNat * 4)).off + 1, none⟩ = some (.int .i64 ((rd_T47 l0 x5_1).f1)) ∧ w'.cell? ⟨(ad380.add ((x5_1).toNat * 4)).block, (ad380.add ((x5_1).toNat * 4)).off + 2, none⟩ = some (.string ((rd_T47 l0 x5_1).f2)) ∧ w'.cell? ⟨(ad380.add ((x5_1).toNat * 4)).block, (ad380.add ((x5_1).toNat * 4)).off + 3, none⟩ = some (.bool ((rd_T47 l0 x5_1).f3))) (ds := []) #[false, false, false, false, false, false, false, false] (by kernel_rfl) rfl rfl ⟨((HB.out.cell (World.block_lt_of_cell? w _ hw383_0)).trans hw383_0), ((HB.out.cell (World.block_lt_of_cell? w _ hw383_1)).trans hw383_1), ((HB.out.cell (World.block_lt_of_cell? w _ hw383_2)).trans hw383_2), ((HB.out.cell (World.block_lt_of_cell? w _ hw383_3)).trans hw383_3)⟩ (fun hHeld => ?_); refine with_tabW laws_heldEntryS.tab10 laws_heldEntryS.bits10 (fun HT_ HW_ => ?_)
                generalize w20.drew = w21 at HB hx383_0 hx383_1 hx383_2 hx383_3 hHeld ⊢
                refine pure_ (i := 0) (N := some 31) (v := ?_) (a' := ?_) #[true, false, false, false, false, false, false, false] rfl rfl (any_of HT_.out (by kernel_rfl)) (fun _ _ _ h => h) (Or.inl ⟨by rfl, ?_⟩) ?_ ?_
                rotate_left
                · intro w'
                  go_simp
                  with_reducible rfl
                rotate_left
                · simp only [Act.put, List.setIfInBounds_toArray, List.set_cons_zero, List.set_cons_succ, i64_w, i32_w]
                  rfl
                refine pure_ (i := 1) (N := some 32) (v := ?_) (a' := ?_) #[true, true, false, false, false, false, false, false] rfl rfl (any_of HT_.out (by kernel_rfl)) (fun _ _ _ h => h) (Or.inl ⟨by rfl, ?_⟩) ?_ ?_
                rotate_left
                · intro w'
                  go_simp
                  with_reducible rfl
                rotate_left
                · simp only [Act.put, List.setIfInBounds_toArray, List.set_cons_zero, List.set_cons_succ, i64_w, i32_w]
                  rfl
                refine pure_ (i := 2) (N := some 33) (v := ?_) (a' := ?_) #[true, true, true, false, false, false, false, false] rfl rfl (any_of HT_.out (by kernel_rfl)) (fun _ _ _ h => h) (Or.inl ⟨by rfl, ?_⟩) ?_ ?_
                rotate_left
                · intro w'
                  go_simp
                  with_reducible rfl
                rotate_left
                · simp only [Act.put, List.setIfInBounds_toArray, List.set_cons_zero, List.set_cons_succ, i64_w, i32_w]
                  rfl
                refine pure_ (i := 3) (N := some 34) (v := ?_) (a' := ?_) #[true, true, true, true, false, false, false, false] rfl rfl (any_of HT_.out (by kernel_rfl)) (fun _ _ _ h => h) (Or.inl ⟨by rfl, ?_⟩) ?_ ?_
                rotate_left
                · intro w'
                  go_simp
                  with_reducible rfl
                rotate_left
                · simp only [Act.put, List.setIfInBounds_toArray, List.set_cons_zero, List.set_cons_succ, i64_w, i32_w]
                  rfl
                refine pure_ (i := 5) (N := some 36) (v := ?_) (a' := ?_) #[true, true, true, true, false, true, false, false] rfl rfl (any_of HT_.out (by kernel_rfl)) (fun _ _ _ h => h) (Or.inl ⟨by rfl, ?_⟩) ?_ ?_
                rotate_left
                · intro w'
                  go_simp
                  with_reducible rfl
                rotate_left
                · simp only [Act.put, List.setIfInBounds_toArray, List.set_cons_zero, List.set_cons_succ, i64_w, i32_w]
                  rfl
                refine take_ (i := 4) (N := some 35) (v := ?_) (a' := ?_) #[true, true, true, true, true, true, false, false] rfl rfl (take_ofW HT_.out HW_.out (by kernel_rfl)) (fun _ _ _ h => h) (Or.inl ⟨by rfl, ?_⟩) hHeld ?_ ?_
                rotate_left
                · rintro w' ⟨s0, s1, s2, s3⟩
                  go_simp
                  with_reducible rfl
                rotate_left
                · simp only [Act.put, List.setIfInBounds_toArray, List.set_cons_zero, List.set_cons_succ, i64_w, i32_w]
                  rfl
                refine one_ (i := 6) (N := some 37) #[true, true, true, true, true, true, true, false] rfl rfl (one_of HT_.out (by kernel_rfl)) (by decide) (fun K hK => ?_)
                refine goes_ Tryd.func51 (by kernel_rfl) rfl #[.int .i64 (wrap64 ((wrap64 (x1_1 + 1)) + 1))] (by rfl) rfl rfl (by (try simp only [List.map_toArray, List.map_cons, List.map_nil]); first | done | rfl | (simp only [List.length_drop, List.length_take]; rfl)) ?_
                with_reducible refine (laws_markText.calls k1 (wrap64 ((wrap64 (x1_1 + 1)) + 1)) t384 _ A8.out).mono ?_
                rintro e w22 ⟨rfl, hb⟩
                refine ⟨_, rfl, ?_⟩
                have n0_ := Aside0.mk (below_step (by repeat (first | (with_reducible first | exact HB.out | apply below_alloc | apply pw_below_drewN | apply below_drew1) | exact HB.out)) hb)
                clear HB
                have HB := n0_
                clear n0_
                (try clear hb)
                (try clear hb2)
                (try clear hk)
                (try clear hi)
                refine hK.out _ _ ⟨((HB.out.cell (World.block_lt_of_cell? w _ hw383_0)).trans hw383_0), ((HB.out.cell (World.block_lt_of_cell? w _ hw383_1)).trans hw383_1), ((HB.out.cell (World.block_lt_of_cell? w _ hw383_2)).trans hw383_2), ((HB.out.cell (World.block_lt_of_cell? w _ hw383_3)).trans hw383_3)⟩ (fun hHeld => ?_)
                clear hK K
                refine norm_ (a' := ?_) ?_ ?_
                rotate_left
                · show Act.put _ (some 37) _ = _
                  simp only [Act.put, List.setIfInBounds_toArray, List.set_cons_zero, List.set_cons_succ, i64_w, i32_w]
                  rfl
                refine pure_ (i := 7) (N := some 38) (v := ?_) (a' := ?_) #[true, true, true, true, true, true, true, true] rfl rfl (any_of HT_.out (by kernel_rfl)) (fun _ _ _ h => h) (Or.inl ⟨by rfl, ?_⟩) ?_ ?_
                rotate_left
                · intro w'
                  go_simp
                  with_reducible rfl
                rotate_left
                · simp only [Act.put, List.setIfInBounds_toArray, List.set_cons_zero, List.set_cons_succ, i64_w, i32_w]
                  rfl
                refine done_ (done_of HT_.out (by kernel_rfl)) ?_
                try go_wp2
                go_ret
                exact ⟨by first | rfl | (simp [errW_none, errW_some] <;> rfl) | (simp [*, errW_none, errW_some] <;> rfl), by repeat (first | (with_reducible first | exact HB.out | apply below_alloc | apply pw_below_drewN | apply below_drew1) | exact HB.out)⟩
            · rw [if_neg c7] at H
              have c7b0 : (((rd_T47 l0 x5_1).f1) == (wrap64 (x1_1 + 1))) = false := beq_eq_false_iff_ne.mpr c7
              have c7b1 : (((rd_T47 l0 x5_1).f1) != (wrap64 (x1_1 + 1))) = true := bne_iff_ne.mpr c7
              obtain rfl := Option.some.inj H
              try go_wp2
              have n0_ := Aside0.mk (below_drew1 HB.out)
              clear HB
              have HB := n0_
              clear n0_
              have p380 : 0 ≤ (x5_1 : Int) := of_decide_eq_true (by first | (with_reducible assumption) | assumption)
              have q380 : x5_1 < (l0.length : Int) := of_decide_eq_true (by first | (with_reducible assumption) | assumption)
              obtain ⟨ad380, e380, hx380_0, hx380_1, hx380_2, hx380_3⟩ := at_T47 HR0.out x5_1 p380 q380
              have hw380_3 := hx380_3
              have hw380_2 := hx380_2
              have hw380_1 := hx380_1
              have hw380_0 := hx380_0
              cases e380
              replace hx380_0 := (HB.out.cell (World.block_lt_of_cell? w _ hx380_0)).trans hx380_0
              replace hx380_1 := (HB.out.cell (World.block_lt_of_cell? w _ hx380_1)).trans hx380_1
              replace hx380_2 := (HB.out.cell (World.block_lt_of_cell? w _ hx380_2)).trans hx380_2
              replace hx380_3 := (HB.out.cell (World.block_lt_of_cell? w _ hx380_3)).trans hx380_3
              replace p380 := eq_true p380
              replace q380 := eq_true q380
              refine start_ (n := 8) (S := fun w' => w'.cell? (ad380.add ((x5_1).toNat * 4)) = some (.string ((rd_T47 l0 x5_1).f0)) ∧ w'.cell? ⟨(ad380.add ((x5_1).toNat * 4)).block, (ad380.add ((x5_1).toNat * 4)).off + 1, none⟩ = some (.int .i64 ((rd_T47 l0 x5_1).f1)) ∧ w'.cell? ⟨(ad380.add ((x5_1).toNat * 4)).block, (ad380.add ((x5_1).toNat * 4)).off + 2, none⟩ = some (.string ((rd_T47 l0 x5_1).f2)) ∧ w'.cell? ⟨(ad380.add ((x5_1).toNat * 4)).block, (ad380.add ((x5_1).toNat * 4)).off + 3, none⟩ = some (.bool ((rd_T47 l0 x5_1).f3))) (ds := []) #[false, false, false, false, false, false, false, false] (by kernel_rfl) rfl rfl ⟨((HB.out.cell (World.block_lt_of_cell? w _ hw380_0)).trans hw380_0), ((HB.out.cell (World.block_lt_of_cell? w _ hw380_1)).trans hw380_1), ((HB.out.cell (World.block_lt_of_cell? w _ hw380_2)).trans hw380_2), ((HB.out.cell (World.block_lt_of_cell? w _ hw380_3)).trans hw380_3)⟩ (fun hHeld => ?_); refine with_tabW laws_heldEntryS.tab4 laws_heldEntryS.bits4 (fun HT_ HW_ => ?_)
              generalize wr.drew = w23 at HB hx380_0 hx380_1 hx380_2 hx380_3 hHeld ⊢
              refine pure_ (i := 0) (N := some 12) (v := ?_) (a' := ?_) #[true, false, false, false, false, false, false, false] rfl rfl (any_of HT_.out (by kernel_rfl)) (fun _ _ _ h => h) (Or.inl ⟨by rfl, ?_⟩) ?_ ?_
              rotate_left
              · intro w'
                go_simp
                with_reducible rfl
              rotate_left
              · simp only [Act.put, List.setIfInBounds_toArray, List.set_cons_zero, List.set_cons_succ, i64_w, i32_w]
                rfl
              refine pure_ (i := 1) (N := some 13) (v := ?_) (a' := ?_) #[true, true, false, false, false, false, false, false] rfl rfl (any_of HT_.out (by kernel_rfl)) (fun _ _ _ h => h) (Or.inl ⟨by rfl, ?_⟩) ?_ ?_
              rotate_left
              · intro w'
                go_simp
                with_reducible rfl
              rotate_left
              · simp only [Act.put, List.setIfInBounds_toArray, List.set_cons_zero, List.set_cons_succ, i64_w, i32_w]
                rfl
              refine pure_ (i := 2) (N := some 14) (v := ?_) (a' := ?_) #[true, true, true, false, false, false, false, false] rfl rfl (any_of HT_.out (by kernel_rfl)) (fun _ _ _ h => h) (Or.inl ⟨by rfl, ?_⟩) ?_ ?_
              rotate_left
              · intro w'
                go_simp
                with_reducible rfl
              rotate_left
              · simp only [Act.put, List.setIfInBounds_toArray, List.set_cons_zero, List.set_cons_succ, i64_w, i32_w]
                rfl
              refine pure_ (i := 3) (N := some 15) (v := ?_) (a' := ?_) #[true, true, true, true, false, false, false, false] rfl rfl (any_of HT_.out (by kernel_rfl)) (fun _ _ _ h => h) (Or.inl ⟨by rfl, ?_⟩) ?_ ?_
              rotate_left
              · intro w'
                go_simp
                with_reducible rfl
              rotate_left
              · simp only [Act.put, List.setIfInBounds_toArray, List.set_cons_zero, List.set_cons_succ, i64_w, i32_w]
                rfl
              refine pure_ (i := 5) (N := some 17) (v := ?_) (a' := ?_) #[true, true, true, true, false, true, false, false] rfl rfl (any_of HT_.out (by kernel_rfl)) (fun _ _ _ h => h) (Or.inl ⟨by rfl, ?_⟩) ?_ ?_
              rotate_left
              · intro w'
                go_simp
                with_reducible rfl
              rotate_left
              · simp only [Act.put, List.setIfInBounds_toArray, List.set_cons_zero, List.set_cons_succ, i64_w, i32_w]
                rfl
              refine take_ (i := 4) (N := some 16) (v := ?_) (a' := ?_) #[true, true, true, true, true, true, false, false] rfl rfl (take_ofW HT_.out HW_.out (by kernel_rfl)) (fun _ _ _ h => h) (Or.inl ⟨by rfl, ?_⟩) hHeld ?_ ?_
              rotate_left
              · rintro w' ⟨s0, s1, s2, s3⟩
                go_simp
                with_reducible rfl
              rotate_left
              · simp only [Act.put, List.setIfInBounds_toArray, List.set_cons_zero, List.set_cons_succ, i64_w, i32_w]
                rfl
              refine one_ (i := 6) (N := some 18) #[true, true, true, true, true, true, true, false] rfl rfl (one_of HT_.out (by kernel_rfl)) (by decide) (fun K hK => ?_)
              refine goes_ Tryd.func51 (by kernel_rfl) rfl #[.int .i64 x1_1] (by rfl) rfl rfl (by (try simp only [List.map_toArray, List.map_cons, List.map_nil]); first | done | rfl | (simp only [List.length_drop, List.length_take]; rfl)) ?_
              with_reducible refine (laws_markText.calls k1 x1_1 t381 _ A5.out).mono ?_
              rintro e w24 ⟨rfl, hb⟩
              refine ⟨_, rfl, ?_⟩
              have n0_ := Aside0.mk (below_step (by repeat (first | (with_reducible first | exact HB.out | apply below_alloc | apply pw_below_drewN | apply below_drew1) | exact HB.out)) hb)
              clear HB
              have HB := n0_
              clear n0_
              (try clear hb)
              (try clear hb2)
              (try clear hk)
              (try clear hi)
              refine hK.out _ _ ⟨((HB.out.cell (World.block_lt_of_cell? w _ hw380_0)).trans hw380_0), ((HB.out.cell (World.block_lt_of_cell? w _ hw380_1)).trans hw380_1), ((HB.out.cell (World.block_lt_of_cell? w _ hw380_2)).trans hw380_2), ((HB.out.cell (World.block_lt_of_cell? w _ hw380_3)).trans hw380_3)⟩ (fun hHeld => ?_)
              clear hK K
              refine norm_ (a' := ?_) ?_ ?_
              rotate_left
              · show Act.put _ (some 18) _ = _
                simp only [Act.put, List.setIfInBounds_toArray, List.set_cons_zero, List.set_cons_succ, i64_w, i32_w]
                rfl
              refine pure_ (i := 7) (N := some 19) (v := ?_) (a' := ?_) #[true, true, true, true, true, true, true, true] rfl rfl (any_of HT_.out (by kernel_rfl)) (fun _ _ _ h => h) (Or.inl ⟨by rfl, ?_⟩) ?_ ?_
              rotate_left
              · intro w'
                go_simp
                with_reducible rfl
              rotate_left
              · simp only [Act.put, List.setIfInBounds_toArray, List.set_cons_zero, List.set_cons_succ, i64_w, i32_w]
                rfl
              refine done_ (done_of HT_.out (by kernel_rfl)) ?_
              have p382 : 0 ≤ (x5_1 : Int) := of_decide_eq_true (by first | (with_reducible assumption) | assumption)
              have q382 : x5_1 < (l0.length : Int) := of_decide_eq_true (by first | (with_reducible assumption) | assumption)
              obtain ⟨ad382, e382, hx382_0, hx382_1, hx382_2, hx382_3⟩ := at_T47 HR0.out x5_1 p382 q382
              obtain rfl : ad380 = ad382 := (by injection e382)
              replace hx382_0 := (HB.out.cell (World.block_lt_of_cell? w _ hx382_0)).trans hx382_0
              replace hx382_1 := (HB.out.cell (World.block_lt_of_cell? w _ hx382_1)).trans hx382_1
              replace hx382_2 := (HB.out.cell (World.block_lt_of_cell? w _ hx382_2)).trans hx382_2
              replace hx382_3 := (HB.out.cell (World.block_lt_of_cell? w _ hx382_3)).trans hx382_3
              replace p382 := eq_true p382
              replace q382 := eq_true q382
              try go_wp2
              go_ret
              exact ⟨by first | rfl | (simp [errW_none, errW_some] <;> rfl) | (simp [*, errW_none, errW_some] <;> rfl), by repeat (first | (with_reducible first | exact HB.out | apply below_alloc | apply pw_below_drewN | apply below_drew1) | exact HB.out)⟩
          · rw [if_neg c6] at H
            have c6b0 : (((rd_T47 l0 x5_1).f0).toList == t381.toList) = false := beq_eq_false_iff_ne.mpr c6
            have c6b1 : (((rd_T47 l0 x5_1).f0).toList != t381.toList) = true := bne_iff_ne.mpr c6
            obtain rfl := Option.some.inj H
            try go_wp2
            have n0_ := Aside0.mk (below_drew1 HB.out)
            clear HB
            have HB := n0_
            clear n0_
            have p380 : 0 ≤ (x5_1 : Int) := of_decide_eq_true (by first | (with_reducible assumption) | assumption)
            have q380 : x5_1 < (l0.length : Int) := of_decide_eq_true (by first | (with_reducible assumption) | assumption)
            obtain ⟨ad380, e380, hx380_0, hx380_1, hx380_2, hx380_3⟩ := at_T47 HR0.out x5_1 p380 q380
            have hw380_3 := hx380_3
            have hw380_2 := hx380_2
            have hw380_1 := hx380_1
            have hw380_0 := hx380_0
            cases e380
            replace hx380_0 := (HB.out.cell (World.block_lt_of_cell? w _ hx380_0)).trans hx380_0
            replace hx380_1 := (HB.out.cell (World.block_lt_of_cell? w _ hx380_1)).trans hx380_1
            replace hx380_2 := (HB.out.cell (World.block_lt_of_cell? w _ hx380_2)).trans hx380_2
            replace hx380_3 := (HB.out.cell (World.block_lt_of_cell? w _ hx380_3)).trans hx380_3
            replace p380 := eq_true p380
            replace q380 := eq_true q380
            refine start_ (n := 8) (S := fun w' => w'.cell? (ad380.add ((x5_1).toNat * 4)) = some (.string ((rd_T47 l0 x5_1).f0)) ∧ w'.cell? ⟨(ad380.add ((x5_1).toNat * 4)).block, (ad380.add ((x5_1).toNat * 4)).off + 1, none⟩ = some (.int .i64 ((rd_T47 l0 x5_1).f1)) ∧ w'.cell? ⟨(ad380.add ((x5_1).toNat * 4)).block, (ad380.add ((x5_1).toNat * 4)).off + 2, none⟩ = some (.string ((rd_T47 l0 x5_1).f2)) ∧ w'.cell? ⟨(ad380.add ((x5_1).toNat * 4)).block, (ad380.add ((x5_1).toNat * 4)).off + 3, none⟩ = some (.bool ((rd_T47 l0 x5_1).f3))) (ds := []) #[false, false, false, false, false, false, false, false] (by kernel_rfl) rfl rfl ⟨((HB.out.cell (World.block_lt_of_cell? w _ hw380_0)).trans hw380_0), ((HB.out.cell (World.block_lt_of_cell? w _ hw380_1)).trans hw380_1), ((HB.out.cell (World.block_lt_of_cell? w _ hw380_2)).trans hw380_2), ((HB.out.cell (World.block_lt_of_cell? w _ hw380_3)).trans hw380_3)⟩ (fun hHeld => ?_); refine with_tabW laws_heldEntryS.tab4 laws_heldEntryS.bits4 (fun HT_ HW_ => ?_)
            generalize wr.drew = w25 at HB hx380_0 hx380_1 hx380_2 hx380_3 hHeld ⊢
            refine pure_ (i := 0) (N := some 12) (v := ?_) (a' := ?_) #[true, false, false, false, false, false, false, false] rfl rfl (any_of HT_.out (by kernel_rfl)) (fun _ _ _ h => h) (Or.inl ⟨by rfl, ?_⟩) ?_ ?_
            rotate_left
            · intro w'
              go_simp
              with_reducible rfl
            rotate_left
            · simp only [Act.put, List.setIfInBounds_toArray, List.set_cons_zero, List.set_cons_succ, i64_w, i32_w]
              rfl
            refine pure_ (i := 1) (N := some 13) (v := ?_) (a' := ?_) #[true, true, false, false, false, false, false, false] rfl rfl (any_of HT_.out (by kernel_rfl)) (fun _ _ _ h => h) (Or.inl ⟨by rfl, ?_⟩) ?_ ?_
            rotate_left
            · intro w'
              go_simp
              with_reducible rfl
            rotate_left
            · simp only [Act.put, List.setIfInBounds_toArray, List.set_cons_zero, List.set_cons_succ, i64_w, i32_w]
              rfl
            refine pure_ (i := 2) (N := some 14) (v := ?_) (a' := ?_) #[true, true, true, false, false, false, false, false] rfl rfl (any_of HT_.out (by kernel_rfl)) (fun _ _ _ h => h) (Or.inl ⟨by rfl, ?_⟩) ?_ ?_
            rotate_left
            · intro w'
              go_simp
              with_reducible rfl
            rotate_left
            · simp only [Act.put, List.setIfInBounds_toArray, List.set_cons_zero, List.set_cons_succ, i64_w, i32_w]
              rfl
            refine pure_ (i := 3) (N := some 15) (v := ?_) (a' := ?_) #[true, true, true, true, false, false, false, false] rfl rfl (any_of HT_.out (by kernel_rfl)) (fun _ _ _ h => h) (Or.inl ⟨by rfl, ?_⟩) ?_ ?_
            rotate_left
            · intro w'
              go_simp
              with_reducible rfl
            rotate_left
            · simp only [Act.put, List.setIfInBounds_toArray, List.set_cons_zero, List.set_cons_succ, i64_w, i32_w]
              rfl
            refine pure_ (i := 5) (N := some 17) (v := ?_) (a' := ?_) #[true, true, true, true, false, true, false, false] rfl rfl (any_of HT_.out (by kernel_rfl)) (fun _ _ _ h => h) (Or.inl ⟨by rfl, ?_⟩) ?_ ?_
            rotate_left
            · intro w'
              go_simp
              with_reducible rfl
            rotate_left
            · simp only [Act.put, List.setIfInBounds_toArray, List.set_cons_zero, List.set_cons_succ, i64_w, i32_w]
              rfl
            refine take_ (i := 4) (N := some 16) (v := ?_) (a' := ?_) #[true, true, true, true, true, true, false, false] rfl rfl (take_ofW HT_.out HW_.out (by kernel_rfl)) (fun _ _ _ h => h) (Or.inl ⟨by rfl, ?_⟩) hHeld ?_ ?_
            rotate_left
            · rintro w' ⟨s0, s1, s2, s3⟩
              go_simp
              with_reducible rfl
            rotate_left
            · simp only [Act.put, List.setIfInBounds_toArray, List.set_cons_zero, List.set_cons_succ, i64_w, i32_w]
              rfl
            refine one_ (i := 6) (N := some 18) #[true, true, true, true, true, true, true, false] rfl rfl (one_of HT_.out (by kernel_rfl)) (by decide) (fun K hK => ?_)
            refine goes_ Tryd.func51 (by kernel_rfl) rfl #[.int .i64 x1_1] (by rfl) rfl rfl (by (try simp only [List.map_toArray, List.map_cons, List.map_nil]); first | done | rfl | (simp only [List.length_drop, List.length_take]; rfl)) ?_
            with_reducible refine (laws_markText.calls k1 x1_1 t381 _ A5.out).mono ?_
            rintro e w26 ⟨rfl, hb⟩
            refine ⟨_, rfl, ?_⟩
            have n0_ := Aside0.mk (below_step (by repeat (first | (with_reducible first | exact HB.out | apply below_alloc | apply pw_below_drewN | apply below_drew1) | exact HB.out)) hb)
            clear HB
            have HB := n0_
            clear n0_
            (try clear hb)
            (try clear hb2)
            (try clear hk)
            (try clear hi)
            refine hK.out _ _ ⟨((HB.out.cell (World.block_lt_of_cell? w _ hw380_0)).trans hw380_0), ((HB.out.cell (World.block_lt_of_cell? w _ hw380_1)).trans hw380_1), ((HB.out.cell (World.block_lt_of_cell? w _ hw380_2)).trans hw380_2), ((HB.out.cell (World.block_lt_of_cell? w _ hw380_3)).trans hw380_3)⟩ (fun hHeld => ?_)
            clear hK K
            refine norm_ (a' := ?_) ?_ ?_
            rotate_left
            · show Act.put _ (some 18) _ = _
              simp only [Act.put, List.setIfInBounds_toArray, List.set_cons_zero, List.set_cons_succ, i64_w, i32_w]
              rfl
            refine pure_ (i := 7) (N := some 19) (v := ?_) (a' := ?_) #[true, true, true, true, true, true, true, true] rfl rfl (any_of HT_.out (by kernel_rfl)) (fun _ _ _ h => h) (Or.inl ⟨by rfl, ?_⟩) ?_ ?_
            rotate_left
            · intro w'
              go_simp
              with_reducible rfl
            rotate_left
            · simp only [Act.put, List.setIfInBounds_toArray, List.set_cons_zero, List.set_cons_succ, i64_w, i32_w]
              rfl
            refine done_ (done_of HT_.out (by kernel_rfl)) ?_
            try go_wp2
            go_ret
            exact ⟨by first | rfl | (simp [errW_none, errW_some] <;> rfl) | (simp [*, errW_none, errW_some] <;> rfl), by repeat (first | (with_reducible first | exact HB.out | apply below_alloc | apply pw_below_drewN | apply below_drew1) | exact HB.out)⟩
        · rw [if_neg c4] at H
          exact absurd H (by simp)
      · rw [if_neg c3] at H
        have c3b0 : decide (x5_1 < (l0.length : Int)) = false := decide_eq_false c3
        clear c3
        obtain rfl := Option.some.inj H
        go_wp2
        go_ret
        exact ⟨by first | rfl | (simp [errW_none, errW_some] <;> rfl) | (simp [*, errW_none, errW_some] <;> rfl), by repeat (first | (with_reducible first | exact HB.out | apply below_alloc | apply pw_below_drewN | apply below_drew1) | exact HB.out)⟩
end Go.Proofs.YtgghefjkkidaoaaDoor.P
end

section
namespace Go.Proofs.YtgghefjkkidaoaaDoor.P
open Go.RowKit Go.Proofs.YtgghefjkkidaoaaDoorW.PrintWords Go.Proofs.YtgghefjkkidaoaaDoorW.PrintLast Go.Proofs.YtgghefjkkidaoaaDoorW.PrintMore Go.Proofs.YtgghefjkkidaoaaDoorM
attribute [local go_sem] max2_int min2_int max_two min_two max_three min_three max_four min_four   -- for this text's walks alone
set_option linter.unusedVariables false
set_option linter.unusedSimpArgs false
def spec_l10Under.f (a0 : ByteArray) (a1 : ByteArray) : Option (Bool) := if (a0.size : Int) > (a1.size : Int) then (if 0 ≤ (wrap64 ((a1.size : Int) + 1)) then (if (wrap64 ((a1.size : Int) + 1)) ≤ (a0.size : Int) then (if a1.size + 1 ≤ 9223372036854775807 then (some ((a0.extract 0 ((wrap64 ((a1.size : Int) + 1)) : Int).toNat).toList == (a1 ++ (⟨#[47]⟩ : ByteArray)).toList)) else (none)) else (none)) else (none)) else (some false)
set_option maxHeartbeats 8000000 in
set_option maxRecDepth 100000 in
theorem spec_l10Under.calls (a0 : ByteArray) (a1 : ByteArray) (r : Bool) (w : World) (h : spec_l10Under.f a0 a1 = some r) :
    Calls Tryd.prog 85 #[.string a0, .string a1] w fun e w' => e = .returned (.bool r) ∧ Drawn0 w w' := by
  have H : (if (a0.size : Int) > (a1.size : Int) then (if 0 ≤ (wrap64 ((a1.size : Int) + 1)) then (if (wrap64 ((a1.size : Int) + 1)) ≤ (a0.size : Int) then (if a1.size + 1 ≤ 9223372036854775807 then (some ((a0.extract 0 ((wrap64 ((a1.size : Int) + 1)) : Int).toNat).toList == (a1 ++ (⟨#[47]⟩ : ByteArray)).toList)) else (none)) else (none)) else (none)) else (some false)) = some r := h
  clear h
  by_cases c3 : (a0.size : Int) > (a1.size : Int)
  · rw [if_pos c3] at H
    have c3b0 : decide ((a1.size : Int) < (a0.size : Int)) = true := decide_eq_true c3
    have c3b1 : decide (a1.size < a0.size) = true := decide_eq_true (Int.ofNat_lt.mp c3)
    clear c3
    obtain ⟨ji4, hji4⟩ : ∃ j_ : Int, (wrap64 ((a1.size : Int) + 1)) = j_ := ⟨_, rfl⟩
    replace H : (if 0 ≤ (ji4) then (if (ji4) ≤ (a0.size : Int) then (if a1.size + 1 ≤ 9223372036854775807 then (some ((a0.extract 0 ((ji4) : Int).toNat).toList == (a1 ++ (⟨#[47]⟩ : ByteArray)).toList)) else (none)) else (none)) else (none)) = some r := by first | (rw [hji4] at H; exact H) | (simp only [hji4] at H ⊢; exact H)
    have hji4w : (IntKind.i64.wrap ((a1.size : Int) + 1)) = ji4 := (i64_w _).trans hji4
    by_cases c5 : 0 ≤ (ji4)
    · rw [if_pos c5] at H
      have c5b0 := eq_true c5
      have c5b1 : decide (0 ≤ (ji4)) = true := decide_eq_true c5
      clear c5
      by_cases c6 : (ji4) ≤ (a0.size : Int)
      · rw [if_pos c6] at H
        have c6b0 := eq_true c6
        have c6b1 : decide ((ji4) ≤ (a0.size : Int)) = true := decide_eq_true c6
        clear c6
        by_cases c7 : a1.size + 1 ≤ 9223372036854775807
        · rw [if_pos c7] at H
          have c7b0 := eq_true c7
          have c7b1 : decide (a1.size + 1 ≤ 9223372036854775807) = true := decide_eq_true c7
          try have c7b2 : (9223372036854775807 < a1.size + 1) = False := eq_false (Nat.not_lt.2 c7)
          obtain rfl := Option.some.inj H
          go_enter Tryd.func85, Tryd.ntmps85
          go_wp2
          go_ret
          exact ⟨by first | rfl | (simp; done) | (simp only [← hji4] <;> (first | rfl | simp)) | (simp [*]; done), by repeat (first | exact Drawn0.refl _ | apply Drawn0.step)⟩
        · rw [if_neg c7] at H
          exact absurd H (by simp)
      · rw [if_neg c6] at H
        exact absurd H (by simp)
    · rw [if_neg c5] at H
      exact absurd H (by simp)
  · rw [if_neg c3] at H
    have c3b0 : decide ((a1.size : Int) < (a0.size : Int)) = false := decide_eq_false c3
    have c3b1 : decide (a1.size < a0.size) = false := decide_eq_false (fun h => c3 (Int.ofNat_lt.mpr h))
    clear c3
    obtain rfl := Option.some.inj H
    go_enter Tryd.func85, Tryd.ntmps85
    go_wp2
    go_ret
    exact ⟨by first | rfl | (simp; done) | (simp [*]; done), by repeat (first | exact Drawn0.refl _ | apply Drawn0.step)⟩
end Go.Proofs.YtgghefjkkidaoaaDoor.P
end

section
namespace Go.Proofs.YtgghefjkkidaoaaDoor.P
open Go.RowKit Go.Proofs.YtgghefjkkidaoaaDoorW.PrintWords Go.Proofs.YtgghefjkkidaoaaDoorW.PrintLast Go.Proofs.YtgghefjkkidaoaaDoorW.PrintMore Go.Proofs.YtgghefjkkidaoaaDoorM
attribute [local go_sem] max2_int min2_int max_two min_two max_three min_three max_four min_four   -- for this text's walks alone
set_option linter.unusedVariables false
set_option linter.unusedSimpArgs false
set_option maxHeartbeats 400000 in
theorem impl_entryAt.cl (x : S47) (p : ByteArray) (g : Nat) (w : World) (hb : w.cell? ⟨g, 0, none⟩ = some (.string p)) (hg : g < w.heap.size) :
  Calls Tryd.prog 86 #[.agg #[.string x.f0, .int .i64 x.f1, .string x.f2, .bool x.f3], .pointer (some ⟨g, 0, none⟩)] w fun e w' => e = .returned (.bool (x.f0.toList == p.toList)) ∧ Below w.heap.size w w' := by
  have hu47 := Tryd.underlying47
  go_enter Tryd.func86, Tryd.ntmps86
  go_wp2
  go_ret
  exact ⟨rfl, by repeat (first | (with_reducible first | exact Below.refl _ _ | apply below_alloc | apply pw_below_drewN | apply below_drew1) | exact Below.refl _ _)⟩
def impl_entryAt.first (p : ByteArray) : List S47 → Int → Int
  | [], _ => -1
  | e :: t, i => if (e.f0.toList == p.toList) = true then i else impl_entryAt.first p t (i + 1)
theorem impl_entryAt.fi_end (p : ByteArray) (l : List S47) (i : Nat) (h : l.length ≤ i) : impl_entryAt.first p (l.drop i) i = -1 := by
  rw [List.drop_eq_nil_of_le h]; rfl
theorem impl_entryAt.fi_yes (p : ByteArray) (l : List S47) (i : Nat) (h : i < l.length) (hc : ((rd_T47 l i).f0.toList == p.toList) = true) : impl_entryAt.first p (l.drop i) i = i := by
  rw [List.drop_eq_getElem_cons h, impl_entryAt.first, if_pos]
  simpa [rd_T47, List.getD_eq_getElem?_getD, List.getElem?_eq_getElem h] using hc
theorem impl_entryAt.fi_no (p : ByteArray) (l : List S47) (i : Nat) (h : i < l.length) (hc : ((rd_T47 l i).f0.toList == p.toList) = false) : impl_entryAt.first p (l.drop i) i = impl_entryAt.first p (l.drop (i + 1)) ((i + 1 : Nat) : Int) := by
  rw [List.drop_eq_getElem_cons h, impl_entryAt.first, if_neg]
  · rfl
  · simpa [rd_T47, List.getD_eq_getElem?_getD, List.getElem?_eq_getElem h] using hc
set_option maxRecDepth 100000 in
set_option maxHeartbeats 1000000 in
theorem impl_entryAt.indexFunc (A0 : Option Addr) (c0 : Nat) (l0 : List S47) (p : ByteArray) (g : Nat) (w : World) (hr0 : Kd.C k47 w A0 l0.length l0) (hc0 : l0.length ≤ c0) (hb : w.cell? ⟨g, 0, none⟩ = some (.string p)) (hg : g < w.heap.size) :
  Calls Tryd.prog 73 #[.slice A0 l0.length c0, .func (.func 86) #[] #[.pointer (some ⟨g, 0, none⟩)]] w fun e w' => e = .returned (.int .i64 (impl_entryAt.first p l0 0)) ∧ Below w.heap.size w w' := by
  have hu47 := Tryd.underlying47
  have HR0 := Aside0.mk hr0
  have HC0 := Aside0.mk hc0
  have HX := Aside0.mk (And.intro hb hg)
  have hl := hr0.2.1
  clear hr0 hc0 hb hg
  have HB := Aside0.mk (Below.refl w.heap.size w)
  go_enter Tryd.func73, Tryd.ntmps73
  go_wp2
  go_loopw [8] (fun v8 w' => ∃ i : Nat, v8 = .int .i64 i ∧ i ≤ l0.length ∧ Aside0 (impl_entryAt.first p l0 0 = impl_entryAt.first p (l0.drop i) i) ∧ Aside0 (Below w.heap.size w w')) (fun v8 _ => l0.length - (intOf v8).toNat)
  case atStart => exact ⟨0, rfl, Nat.zero_le _, ⟨rfl⟩, ⟨Below.refl _ _⟩⟩
  case round =>
    clear HB
    obtain ⟨i, rfl, hi, HF, HB⟩ := hrel
    by_cases hlt : i < l0.length
    · have p1 : 0 ≤ (i : Int) := by omega
      have q1 : (i : Int) < (l0.length : Int) := by omega
      obtain ⟨ad, e1, hx_0, hx_1, hx_2, hx_3⟩ := at_T47 HR0.out i p1 q1
      cases e1
      replace hx_0 := (HB.out.cell (World.block_lt_of_cell? w _ hx_0)).trans hx_0
      replace hx_1 := (HB.out.cell (World.block_lt_of_cell? w _ hx_1)).trans hx_1
      replace hx_2 := (HB.out.cell (World.block_lt_of_cell? w _ hx_2)).trans hx_2
      replace hx_3 := (HB.out.cell (World.block_lt_of_cell? w _ hx_3)).trans hx_3
      simp only [Int.toNat_natCast] at hx_0 hx_1 hx_2 hx_3
      have hbx := (HB.out.cell (World.block_lt_of_cell? w _ HX.out.1)).trans HX.out.1
      have hs := HB.out.size
      have c1 : decide ((i : Int) < (l0.length : Int)) = true := by simpa using hlt
      have c2 : decide ((i : Nat) < l0.length) = true := by simpa using hlt
      cases hcc : ((rd_T47 l0 i).f0.toList == p.toList) with
      | true =>
        have HCC := Aside0.mk hcc
        clear hcc
        go_wp2_with (go_at_call 86; refine (impl_entryAt.cl (rd_T47 l0 i) p g _ hbx (by have := HX.out.2; omega)).mono ?_; rintro e w8 ⟨rfl, hb8⟩; rw [HCC.out])
        go_ret
        refine ⟨?_, below_step HB.out hb8⟩
        rw [HF.out, impl_entryAt.fi_yes p l0 i hlt HCC.out]
        rfl
      | false =>
        have HCC := Aside0.mk hcc
        clear hcc
        have hw : wrap64 ((i : Int) + 1) = ((i + 1 : Nat) : Int) := by unfold wrap64; omega
        go_wp2_with (go_at_call 86; refine (impl_entryAt.cl (rd_T47 l0 i) p g _ hbx (by have := HX.out.2; omega)).mono ?_; rintro e w8 ⟨rfl, hb8⟩; rw [HCC.out])
        go_roundw
        case rel => exact ⟨i + 1, by first | rfl | (rw [hw]) | (congr 1), by omega, ⟨by rw [HF.out, impl_entryAt.fi_no p l0 i hlt HCC.out]⟩, ⟨below_step HB.out hb8⟩⟩
        case measure => simp [intOf]; omega
    · have c1 : decide ((i : Int) < (l0.length : Int)) = false := by simpa using hlt
      have c2 : decide ((i : Nat) < l0.length) = false := by simpa using hlt
      go_wp2
      go_ret
      refine ⟨?_, HB.out⟩
      rw [HF.out, impl_entryAt.fi_end p l0 i (by omega)]
      rfl
def impl_entryAt.f (l0 : List S47) (a1 : ByteArray) : Option Int := some (impl_entryAt.first a1 l0 0)
theorem impl_entryAt.calls (A0 : Option Addr) (c0 : Nat) (l0 : List S47) (a1 : ByteArray) (r : Int) (w : World) (hr0 : Kd.C k47 w A0 l0.length l0) (hc0 : l0.length ≤ c0) (h : impl_entryAt.f l0 a1 = some r) :
    Calls Tryd.prog 54 #[.slice A0 l0.length c0, .string a1] w fun e w' => e = .returned (.int .i64 r) ∧ Below w.heap.size w w' := by
  obtain rfl := Option.some.inj h
  have HR0 := Aside0.mk hr0
  have HC0 := Aside0.mk hc0
  clear hr0 hc0 h
  go_enter Tryd.func54, Tryd.ntmps54
  go_wp2_with (go_at_call 73; refine (impl_entryAt.indexFunc A0 c0 l0 a1 w.heap.size _ (Kd.C_below HR0.out (below_alloc (Below.refl _ _) _)) HC0.out (by simp [go_sem]) (by show _ < (w.heap.push _).size; rw [Array.size_push]; omega)).mono ?_; rintro e w8 ⟨rfl, hb8⟩)

  go_ret
  exact ⟨rfl, below_step (below_alloc (Below.refl _ _) _) hb8⟩
end Go.Proofs.YtgghefjkkidaoaaDoor.P
end

section
namespace Go.Proofs.YtgghefjkkidaoaaDoor.P
open Go.RowKit Go.Proofs.YtgghefjkkidaoaaDoorW.PrintWords Go.Proofs.YtgghefjkkidaoaaDoorW.PrintLast Go.Proofs.YtgghefjkkidaoaaDoorW.PrintMore Go.Proofs.YtgghefjkkidaoaaDoorM
attribute [local go_sem] max2_int min2_int max_two min_two max_three min_three max_four min_four   -- for this text's walks alone
set_option linter.unusedVariables false
set_option linter.unusedSimpArgs false
end Go.Proofs.YtgghefjkkidaoaaDoor.P
end

section
namespace Go.Proofs.YtgghefjkkidaoaaDoor.P
open Go.RowKit Go.Proofs.YtgghefjkkidaoaaDoorW.PrintWords Go.Proofs.YtgghefjkkidaoaaDoorW.PrintLast Go.Proofs.YtgghefjkkidaoaaDoorW.PrintMore Go.Proofs.YtgghefjkkidaoaaDoorM
attribute [local go_sem] max2_int min2_int max_two min_two max_three min_three max_four min_four   -- for this text's walks alone
set_option linter.unusedVariables false
set_option linter.unusedSimpArgs false
def spec_l10Copy.f (l0 : List (S47)) : Option ((List (S47))) := (some (([] : List (S47)) : List (S47))).bind fun y418 => (if y418.length + l0.length < 2932031007402 then (some (y418 ++ l0)) else (none))
set_option maxHeartbeats 8000000 in
set_option maxRecDepth 100000 in
theorem spec_l10Copy.calls (A0 : Option Addr) (c0 : Nat) (l0 : List (S47)) (r : List (S47)) (w : World) (hr0 : Kd.C k47 w A0 l0.length l0) (hc0 : l0.length ≤ c0) (h : spec_l10Copy.f l0 = some r) :
    Calls Tryd.prog 57 #[.slice A0 l0.length c0] w fun e w' => ∃ v0_ : Value, e = .returned (v0_) ∧ Kd.R k47 47 w' w.heap.size (fun _ => True) v0_ r ∧ Below w.heap.size w w' := by
  have HR0 := Aside0.mk hr0
  have HC0 := Aside0.mk hc0
  clear hr0 hc0
  have HB := Aside0.mk (Below.refl w.heap.size w)
  have H : ((some (([] : List (S47)) : List (S47))).bind fun y418 => (if y418.length + l0.length < 2932031007402 then (some (y418 ++ l0)) else (none))) = some r := h
  clear h
  obtain ⟨y418, hy418⟩ : ∃ y_ : List (S47), y_ = (([] : List (S47))) := ⟨_, rfl⟩
  replace H : (if y418.length + l0.length < 2932031007402 then (some (y418 ++ l0)) else (none)) = some r := by first | (rw [hy418]; with_reducible exact H) | (have H2_ := (Option.bind_some _ _).symm.trans H; rw [hy418]; with_reducible exact H2_) | (have H2_ := (Option.bind_some _ _).symm.trans H; with_reducible exact H2_) | with_reducible exact H | (rw [hy418]; exact H) | exact H
  have Ny418 := Aside0.mk hy418
  clear hy418
  by_cases c2 : y418.length + l0.length < 2932031007402
  · rw [if_pos c2] at H
    have LMc2 := Aside0.mk c2
    clear c2
    obtain ⟨y421, hy421⟩ : ∃ y_ : List (S47), y_ = (y418 ++ l0) := ⟨_, rfl⟩
    replace H : (some y421) = some r := by first | (rw [hy421]; with_reducible exact H) | (have H2_ := (Option.bind_some _ _).symm.trans H; rw [hy421]; with_reducible exact H2_) | (have H2_ := (Option.bind_some _ _).symm.trans H; with_reducible exact H2_) | with_reducible exact H | (rw [hy421]; exact H) | exact H
    have Ny421 := Aside0.mk hy421
    clear hy421
    obtain rfl := Option.some.inj H
    go_enter Tryd.func57, Tryd.ntmps57
    go_wp2_with (first | ((with_reducible refine gate_dst (N := 3) rfl ?_); refine Kd.R_lit k47 _ 47 ?hg (N := 3) ?hd (xs := ([] : List (S47))) (inner := []) (ok := fun _ => True) (okp := fun _ => True) ?hr ?hp (fun _ hk => hk) trivial (Below.refl _ _) (Nat.le_refl _) (by simp) ?_; (case hd => rfl); (case hg => rfl); (case hr => first | (go_simp; done) | (go_simp; rfl)); (case hp => exact (Reps.none _ _)); intro v419 w3 ho4 hb hg_ hnew_; clear hg_ hnew_; (first | rw [← Ny418.out] at ho4 | (simp only [Int.reduceToNat] at ho4; rw [← Ny418.out] at ho4)); have n0_ := Aside0.mk (Kd.R_lower ho4 (below_size (by repeat (first | (with_reducible first | exact HB.out | apply below_alloc | apply pw_below_drewN | apply below_drew1) | exact HB.out)))); have n1_ := Aside0.mk (below_step (by repeat (first | (with_reducible first | exact HB.out | apply below_alloc | apply pw_below_drewN | apply below_drew1) | exact HB.out)) hb); clear HB; have HO420 := n0_; have HB := n1_; clear n0_ n1_; clear hb ho4) | ((with_reducible refine gate_builtin (b := .append) (xs := #[.tmp 3, .tmp 4]) rfl ?_); at_builtin; refine Kd.R_append_rows k47 (w0 := w) w.heap.size rfl (.tmp 3) (.tmp 4) 25 47 (.agg #[(.string ⟨#[]⟩), (.int .i64 0), (.string ⟨#[]⟩), (.bool false)]) 48 rfl Tryd.underlying25 info47 rfl (by decide) (by omega) v419 y418 l0 _ _ _ (fun _ => True) (fun _ => False) rfl rfl ?aO ?aR (fun _ _ h => h) (fun _ h => h.elim) ?aF ?aB ?aS ?aL ?_; (case aR => repeat (first | exact (Kd.C_below HR0.out HB.out) | (with_reducible refine Kd.C_alloc ?_ _) | (with_reducible refine Kd.C_drewN ?_ _) | (with_reducible refine Kd.C_drew ?_))); (case aB => exact (by repeat (first | (with_reducible first | exact HB.out | apply below_alloc | apply pw_below_drewN | apply below_drew1) | exact HB.out))); (case aF => exact (fun _ _ => trivial)); (case aO => exact (by (with_reducible repeat (first | apply Kd.R_alloc | apply Kd.R_drewN | apply Kd.R_drew)); exact HO420.out)); (case aS => exact (below_size (by repeat (first | (with_reducible first | exact HB.out | apply below_alloc | apply pw_below_drewN | apply below_drew1) | exact HB.out)))); (case aL => have := LMc2.out; omega); intro v422 w5 ho hb hg hat; rw [← Ny421.out] at ho; have n0_ := Aside0.mk (hb); have n1_ := Aside0.mk (ho); clear HB; clear HO420; have HB := n0_; have HO423 := n1_; clear n0_ n1_; clear ho hb hg hat))
    go_ret
    exact ⟨_, by first | rfl | (simp [errW_none, errW_some] <;> rfl) | (simp [*, errW_none, errW_some] <;> rfl), by (with_reducible repeat (first | apply Kd.R_alloc | apply Kd.R_drewN | apply Kd.R_drew)); exact HO423.out, by repeat (first | (with_reducible first | exact HB.out | apply below_alloc | apply pw_below_drewN | apply below_drew1) | exact HB.out)⟩
  · rw [if_neg c2] at H
    exact absurd H (by simp)
end Go.Proofs.YtgghefjkkidaoaaDoor.P
end

section
namespace Go.Proofs.YtgghefjkkidaoaaDoor.P
open Go.RowKit Go.Proofs.YtgghefjkkidaoaaDoorW.PrintWords Go.Proofs.YtgghefjkkidaoaaDoorW.PrintLast Go.Proofs.YtgghefjkkidaoaaDoorW.PrintMore Go.Proofs.YtgghefjkkidaoaaDoorM
attribute [local go_sem] max2_int min2_int max_two min_two max_three min_three max_four min_four   -- for this text's walks alone
set_option linter.unusedVariables false
set_option linter.unusedSimpArgs false
def spec_l10Cut.l0 : Nat → List (S47) → ByteArray → List (S47) → Int → Option ((List (S47)) × Bool)
  | 0, _, _, _, _ => none
  | k + 1, x0, x1, x6, x7 => if x7 < (x0.length : Int) then (if 0 ≤ x7 then (if ((rd_T47 x0 x7).f0).toList = x1.toList then (spec_l10Cut.l0 k x0 x1 x6 (wrap64 (x7 + 1))) else ((spec_l10Under.f ((rd_T47 x0 x7).f0) x1).bind fun t429 => (if t429 = true then (spec_l10Cut.l0 k x0 x1 x6 (wrap64 (x7 + 1))) else (if x6.length < 2932031007402 then (spec_l10Cut.l0 k x0 x1 (x6 ++ [(⟨(rd_T47 x0 x7).f0, (rd_T47 x0 x7).f1, (rd_T47 x0 x7).f2, (rd_T47 x0 x7).f3⟩ : S47)]) (wrap64 (x7 + 1))) else (none))))) else (none)) else (some (x6, decide ((x6.length : Int) < (x0.length : Int))))
def spec_l10Cut.f (k : Nat) (l0 : List (S47)) (a1 : ByteArray) : Option ((List (S47)) × Bool) := spec_l10Cut.l0 k l0 a1 (([] : List (S47))) 0
set_option maxHeartbeats 8000000 in
set_option maxRecDepth 100000 in
theorem spec_l10Cut.calls (k : Nat) (A0 : Option Addr) (c0 : Nat) (l0 : List (S47)) (a1 : ByteArray) (r1 : List (S47)) (r2 : Bool) (w : World) (hr0 : Kd.C k47 w A0 l0.length l0) (hc0 : l0.length ≤ c0) (h : spec_l10Cut.f k l0 a1 = some (r1, r2)) :
    Calls Tryd.prog 58 #[.slice A0 l0.length c0, .string a1] w fun e w' => ∃ v0_ : Value, e = .returned (.tuple #[v0_, .bool r2]) ∧ Kd.R k47 47 w' w.heap.size (fun _ => True) v0_ r1 ∧ Below w.heap.size w w' := by
  have hu47 := Tryd.underlying47
  have HR0 := Aside0.mk hr0
  have HC0 := Aside0.mk hc0
  clear hr0 hc0
  have HB := Aside0.mk (Below.refl w.heap.size w)
  have H : (spec_l10Cut.l0 k l0 a1 (([] : List (S47))) 0) = some (r1, r2) := h
  clear h
  obtain ⟨y424, hy424⟩ : ∃ y_ : List (S47), y_ = (([] : List (S47))) := ⟨_, rfl⟩
  replace H : (spec_l10Cut.l0 k l0 a1 y424 0) = some (r1, r2) := by first | (rw [hy424]; with_reducible exact H) | (have H2_ := (Option.bind_some _ _).symm.trans H; rw [hy424]; with_reducible exact H2_) | (have H2_ := (Option.bind_some _ _).symm.trans H; with_reducible exact H2_) | with_reducible exact H | (rw [hy424]; exact H) | exact H
  have Ny424 := Aside0.mk hy424
  clear hy424
  have H' := Aside0.mk H
  clear H
  go_enter Tryd.func58, Tryd.ntmps58
  go_wp2_with (first | ((with_reducible refine gate_dst (N := 8) rfl ?_); refine Kd.R_lit k47 _ 47 ?hg (N := 8) ?hd (xs := ([] : List (S47))) (inner := []) (ok := fun _ => True) (okp := fun _ => True) ?hr ?hp (fun _ hk => hk) trivial (Below.refl _ _) (Nat.le_refl _) (by simp) ?_; (case hd => rfl); (case hg => rfl); (case hr => first | (go_simp; done) | (go_simp; rfl)); (case hp => exact (Reps.none _ _)); intro v425 w3 ho4 hb hg_ hnew_; clear hg_ hnew_; (first | rw [← Ny424.out] at ho4 | (simp only [Int.reduceToNat] at ho4; rw [← Ny424.out] at ho4)); have n0_ := Aside0.mk (Kd.R_lower ho4 (below_size (by repeat (first | (with_reducible first | exact HB.out | apply below_alloc | apply pw_below_drewN | apply below_drew1) | exact HB.out)))); have n1_ := Aside0.mk (below_step (by repeat (first | (with_reducible first | exact HB.out | apply below_alloc | apply pw_below_drewN | apply below_drew1) | exact HB.out)) hb); clear HB; have HO426 := n0_; have HB := n1_; clear n0_ n1_; clear hb ho4))
  go_loopg [6, 7] k (fun kq v6 v7 w' => ∃ (x6_1 : List (S47)) (x7_1 : Int), v7 = .int .i64 x7_1 ∧ Aside0 (spec_l10Cut.l0 kq l0 a1 x6_1 x7_1 = some (r1, r2)) ∧ Aside0 (kq ≤ k) ∧ Aside0 (Kd.R k47 47 w' w.heap.size (fun _ => True) v6 x6_1) ∧ Aside0 (Below w.heap.size w w'))
  case atStart => exact ⟨(y424), (0), (by first | rfl | (simp; done) | (simp [*]; done)), H', ⟨Nat.le_refl _⟩, ⟨by (with_reducible repeat (first | apply Kd.R_alloc | apply Kd.R_drewN | apply Kd.R_drew)); exact HO426.out⟩, ⟨by repeat (first | (with_reducible first | exact HB.out | apply below_alloc | apply pw_below_drewN | apply below_drew1) | exact HB.out)⟩⟩
  case round =>
    clear H'
    try clear p2
    obtain ⟨x6_1, x7_1, rfl, HA, HK1, HO_6, HB⟩ := hrel
    cases gk with
    | zero => exact absurd HA.out (by simp [spec_l10Cut.l0])
    | succ k1 =>
      have H := HA.out
      clear HA
      simp only [spec_l10Cut.l0] at H
      by_cases c5 : x7_1 < (l0.length : Int)
      · rw [if_pos c5] at H
        have c5b0 : decide (x7_1 < (l0.length : Int)) = true := decide_eq_true c5
        clear c5
        by_cases c6 : 0 ≤ x7_1
        · rw [if_pos c6] at H
          have c6b0 : decide (0 ≤ x7_1) = true := decide_eq_true c6
          clear c6
          by_cases c7 : ((rd_T47 l0 x7_1).f0).toList = a1.toList
          · rw [if_pos c7] at H
            have c7b0 : (((rd_T47 l0 x7_1).f0).toList == a1.toList) = true := beq_iff_eq.mpr c7
            have c7b1 : (((rd_T47 l0 x7_1).f0).toList != a1.toList) = false := bne_eq_false_iff_eq.mpr c7
            clear c7
            have H' := Aside0.mk H
            clear H
            have p427 : 0 ≤ (x7_1 : Int) := of_decide_eq_true (by first | (with_reducible assumption) | assumption)
            have q427 : x7_1 < (l0.length : Int) := of_decide_eq_true (by first | (with_reducible assumption) | assumption)
            obtain ⟨ad427, e427, hx427_0, hx427_1, hx427_2, hx427_3⟩ := at_T47 HR0.out x7_1 p427 q427
            cases e427
            replace hx427_0 := (HB.out.cell (World.block_lt_of_cell? w _ hx427_0)).trans hx427_0
            replace hx427_1 := (HB.out.cell (World.block_lt_of_cell? w _ hx427_1)).trans hx427_1
            replace hx427_2 := (HB.out.cell (World.block_lt_of_cell? w _ hx427_2)).trans hx427_2
            replace hx427_3 := (HB.out.cell (World.block_lt_of_cell? w _ hx427_3)).trans hx427_3
            replace p427 := eq_true p427
            replace q427 := eq_true q427
            go_wp2
            go_roundg k1
            case measure => have := HK1.out; omega
            case rel => exact ⟨(x6_1), (wrap64 (x7_1 + 1)), (by first | rfl | (simp; done) | (simp [*]; done)), H', ⟨by have := HK1.out; omega⟩, ⟨by (with_reducible repeat (first | apply Kd.R_alloc | apply Kd.R_drewN | apply Kd.R_drew)); exact HO_6.out⟩, ⟨by repeat (first | (with_reducible first | exact HB.out | apply below_alloc | apply pw_below_drewN | apply below_drew1) | exact HB.out)⟩⟩
          · rw [if_neg c7] at H
            have c7b0 : (((rd_T47 l0 x7_1).f0).toList == a1.toList) = false := beq_eq_false_iff_ne.mpr c7
            have c7b1 : (((rd_T47 l0 x7_1).f0).toList != a1.toList) = true := bne_iff_ne.mpr c7
            replace H := Option.bind_eq_some_iff.mp H
            obtain ⟨t429, A80, H⟩ := H
            replace H : (if t429 = true then (spec_l10Cut.l0 k1 l0 a1 x6_1 (wrap64 (x7_1 + 1))) else (if x6_1.length < 2932031007402 then (spec_l10Cut.l0 k1 l0 a1 (x6_1 ++ [(⟨(rd_T47 l0 x7_1).f0, (rd_T47 l0 x7_1).f1, (rd_T47 l0 x7_1).f2, (rd_T47 l0 x7_1).f3⟩ : S47)]) (wrap64 (x7_1 + 1))) else (none))) = some (r1, r2) := H
            have A8 := Aside0.mk A80
            clear A80
            by_cases c9 : t429 = true
            · subst c9
              have H1 : (spec_l10Cut.l0 k1 l0 a1 x6_1 (wrap64 (x7_1 + 1))) = some (r1, r2) := by rw [if_pos rfl] at H; exact H
              clear H
              have H := H1
              clear H1
              have H' := Aside0.mk H
              clear H
              have p427 : 0 ≤ (x7_1 : Int) := of_decide_eq_true (by first | (with_reducible assumption) | assumption)
              have q427 : x7_1 < (l0.length : Int) := of_decide_eq_true (by first | (with_reducible assumption) | assumption)
              obtain ⟨ad427, e427, hx427_0, hx427_1, hx427_2, hx427_3⟩ := at_T47 HR0.out x7_1 p427 q427
              cases e427
              replace hx427_0 := (HB.out.cell (World.block_lt_of_cell? w _ hx427_0)).trans hx427_0
              replace hx427_1 := (HB.out.cell (World.block_lt_of_cell? w _ hx427_1)).trans hx427_1
              replace hx427_2 := (HB.out.cell (World.block_lt_of_cell? w _ hx427_2)).trans hx427_2
              replace hx427_3 := (HB.out.cell (World.block_lt_of_cell? w _ hx427_3)).trans hx427_3
              replace p427 := eq_true p427
              replace q427 := eq_true q427
              have p428 : 0 ≤ (x7_1 : Int) := of_decide_eq_true (by first | (with_reducible assumption) | assumption)
              have q428 : x7_1 < (l0.length : Int) := of_decide_eq_true (by first | (with_reducible assumption) | assumption)
              obtain ⟨ad428, e428, hx428_0, hx428_1, hx428_2, hx428_3⟩ := at_T47 HR0.out x7_1 p428 q428
              obtain rfl : ad427 = ad428 := (by injection e428)
              replace hx428_0 := (HB.out.cell (World.block_lt_of_cell? w _ hx428_0)).trans hx428_0
              replace hx428_1 := (HB.out.cell (World.block_lt_of_cell? w _ hx428_1)).trans hx428_1
              replace hx428_2 := (HB.out.cell (World.block_lt_of_cell? w _ hx428_2)).trans hx428_2
              replace hx428_3 := (HB.out.cell (World.block_lt_of_cell? w _ hx428_3)).trans hx428_3
              replace p428 := eq_true p428
              replace q428 := eq_true q428
              go_wp2_with (first | (go_at_call 85; (with_reducible refine (spec_l10Under.calls ((rd_T47 l0 x7_1).f0) a1 true _ A8.out).mono ?_); rintro e w' ⟨rfl, ⟨nd, rfl⟩⟩))
              go_roundg k1
              case measure => have := HK1.out; omega
              case rel => exact ⟨(x6_1), (wrap64 (x7_1 + 1)), (by first | rfl | (simp; done) | (simp [*]; done)), H', ⟨by have := HK1.out; omega⟩, ⟨by (with_reducible repeat (first | apply Kd.R_alloc | apply Kd.R_drewN | apply Kd.R_drew)); exact HO_6.out⟩, ⟨by repeat (first | (with_reducible first | exact HB.out | apply below_alloc | apply pw_below_drewN | apply below_drew1) | exact HB.out)⟩⟩
            · replace c9 := Bool.eq_false_iff.mpr c9
              subst c9
              have H1 : (if x6_1.length < 2932031007402 then (spec_l10Cut.l0 k1 l0 a1 (x6_1 ++ [(⟨(rd_T47 l0 x7_1).f0, (rd_T47 l0 x7_1).f1, (rd_T47 l0 x7_1).f2, (rd_T47 l0 x7_1).f3⟩ : S47)]) (wrap64 (x7_1 + 1))) else (none)) = some (r1, r2) := by rw [if_neg (show ¬ (false = true) by decide)] at H; exact H
              clear H
              have H := H1
              clear H1
              by_cases c10 : x6_1.length < 2932031007402
              · rw [if_pos c10] at H
                have LMc10 := Aside0.mk c10
                clear c10
                obtain ⟨y431, hy431⟩ : ∃ y_ : List (S47), y_ = (x6_1 ++ [(⟨(rd_T47 l0 x7_1).f0, (rd_T47 l0 x7_1).f1, (rd_T47 l0 x7_1).f2, (rd_T47 l0 x7_1).f3⟩ : S47)]) := ⟨_, rfl⟩
                replace H : (spec_l10Cut.l0 k1 l0 a1 y431 (wrap64 (x7_1 + 1))) = some (r1, r2) := by first | (rw [hy431]; with_reducible exact H) | (have H2_ := (Option.bind_some _ _).symm.trans H; rw [hy431]; with_reducible exact H2_) | (have H2_ := (Option.bind_some _ _).symm.trans H; with_reducible exact H2_) | with_reducible exact H | (rw [hy431]; exact H) | exact H
                have Ny431 := Aside0.mk hy431
                clear hy431
                have H' := Aside0.mk H
                clear H
                have p427 : 0 ≤ (x7_1 : Int) := of_decide_eq_true (by first | (with_reducible assumption) | assumption)
                have q427 : x7_1 < (l0.length : Int) := of_decide_eq_true (by first | (with_reducible assumption) | assumption)
                obtain ⟨ad427, e427, hx427_0, hx427_1, hx427_2, hx427_3⟩ := at_T47 HR0.out x7_1 p427 q427
                cases e427
                replace hx427_0 := (HB.out.cell (World.block_lt_of_cell? w _ hx427_0)).trans hx427_0
                replace hx427_1 := (HB.out.cell (World.block_lt_of_cell? w _ hx427_1)).trans hx427_1
                replace hx427_2 := (HB.out.cell (World.block_lt_of_cell? w _ hx427_2)).trans hx427_2
                replace hx427_3 := (HB.out.cell (World.block_lt_of_cell? w _ hx427_3)).trans hx427_3
                replace p427 := eq_true p427
                replace q427 := eq_true q427
                have p428 : 0 ≤ (x7_1 : Int) := of_decide_eq_true (by first | (with_reducible assumption) | assumption)
                have q428 : x7_1 < (l0.length : Int) := of_decide_eq_true (by first | (with_reducible assumption) | assumption)
                obtain ⟨ad428, e428, hx428_0, hx428_1, hx428_2, hx428_3⟩ := at_T47 HR0.out x7_1 p428 q428
                obtain rfl : ad427 = ad428 := (by injection e428)
                replace hx428_0 := (HB.out.cell (World.block_lt_of_cell? w _ hx428_0)).trans hx428_0
                replace hx428_1 := (HB.out.cell (World.block_lt_of_cell? w _ hx428_1)).trans hx428_1
                replace hx428_2 := (HB.out.cell (World.block_lt_of_cell? w _ hx428_2)).trans hx428_2
                replace hx428_3 := (HB.out.cell (World.block_lt_of_cell? w _ hx428_3)).trans hx428_3
                replace p428 := eq_true p428
                replace q428 := eq_true q428
                go_wp2_with (first | (go_at_call 85; (with_reducible refine (spec_l10Under.calls ((rd_T47 l0 x7_1).f0) a1 false _ A8.out).mono ?_); rintro e w' ⟨rfl, ⟨nd, rfl⟩⟩; have p430 : 0 ≤ (x7_1 : Int) := of_decide_eq_true (by first | (with_reducible assumption) | assumption); have q430 : x7_1 < (l0.length : Int) := of_decide_eq_true (by first | (with_reducible assumption) | assumption); obtain ⟨ad430, e430, hx430_0, hx430_1, hx430_2, hx430_3⟩ := at_T47 HR0.out x7_1 p430 q430; obtain rfl : ad427 = ad430 := (by injection e430); replace hx430_0 := (HB.out.cell (World.block_lt_of_cell? w _ hx430_0)).trans hx430_0; replace hx430_1 := (HB.out.cell (World.block_lt_of_cell? w _ hx430_1)).trans hx430_1; replace hx430_2 := (HB.out.cell (World.block_lt_of_cell? w _ hx430_2)).trans hx430_2; replace hx430_3 := (HB.out.cell (World.block_lt_of_cell? w _ hx430_3)).trans hx430_3; replace p430 := eq_true p430; replace q430 := eq_true q430) | ((with_reducible refine gate_builtin (b := .append) (xs := #[.tmp 32, .tmp 37]) rfl ?_); at_builtin; refine Kd.R_append k47 (w0 := w) w.heap.size rfl (.tmp 32) (.tmp 37) 25 47 (.agg #[(.string ⟨#[]⟩), (.int .i64 0), (.string ⟨#[]⟩), (.bool false)]) 48 rfl Tryd.underlying25 info47 rfl (by decide) (by omega) u6 x6_1 (⟨(rd_T47 l0 x7_1).f0, (rd_T47 l0 x7_1).f1, (rd_T47 l0 x7_1).f2, (rd_T47 l0 x7_1).f3⟩ : S47) [.string ((rd_T47 l0 x7_1).f0), .int .i64 ((rd_T47 l0 x7_1).f1), .string ((rd_T47 l0 x7_1).f2), .bool ((rd_T47 l0 x7_1).f3)] (fun _ => True) (fun _ => False) rfl rfl ?aP (fun _ hk => hk.elim) ?aF ?aO ?aB ?aS ?aL ?_; (case aP => exact k47_mkM _ _ _ (⟨(rd_T47 l0 x7_1).f0, (rd_T47 l0 x7_1).f1, (rd_T47 l0 x7_1).f2, (rd_T47 l0 x7_1).f3⟩ : S47)); (case aB => exact (by repeat (first | (with_reducible first | exact HB.out | apply below_alloc | apply pw_below_drewN | apply below_drew1) | exact HB.out))); (case aF => exact (fun _ _ => trivial)); (case aO => exact (by (with_reducible repeat (first | apply Kd.R_alloc | apply Kd.R_drewN | apply Kd.R_drew)); exact HO_6.out)); (case aS => exact (below_size (by repeat (first | (with_reducible first | exact HB.out | apply below_alloc | apply pw_below_drewN | apply below_drew1) | exact HB.out)))); (case aL => have := LMc10.out; omega); intro v432 w11 ho hb hg hat; rw [← Ny431.out] at ho; have n0_ := Aside0.mk (hb); have n1_ := Aside0.mk (ho); clear HB; clear HO_6; have HB := n0_; have HO433 := n1_; clear n0_ n1_; clear ho hb hg hat))
                go_roundg k1
                case measure => have := HK1.out; omega
                case rel => exact ⟨(y431), (wrap64 (x7_1 + 1)), (by first | rfl | (simp; done) | (simp [*]; done)), H', ⟨by have := HK1.out; omega⟩, ⟨by (with_reducible repeat (first | apply Kd.R_alloc | apply Kd.R_drewN | apply Kd.R_drew)); exact HO433.out⟩, ⟨by repeat (first | (with_reducible first | exact HB.out | apply below_alloc | apply pw_below_drewN | apply below_drew1) | exact HB.out)⟩⟩
              · rw [if_neg c10] at H
                exact absurd H (by simp)
        · rw [if_neg c6] at H
          exact absurd H (by simp)
      · rw [if_neg c5] at H
        have c5b0 : decide (x7_1 < (l0.length : Int)) = false := decide_eq_false c5
        clear c5
        simp only [Option.some.injEq, Prod.mk.injEq] at H
        obtain ⟨rfl, rfl⟩ := H
        obtain ⟨Ao12, co12, eo12⟩ := Kd.R_slice HO_6.out
        subst eo12
        go_wp2
        go_ret2
        exact ⟨_, by first | rfl | (simp [errW_none, errW_some] <;> rfl) | (simp [*, errW_none, errW_some] <;> rfl), by (with_reducible repeat (first | apply Kd.R_alloc | apply Kd.R_drewN | apply Kd.R_drew)); exact HO_6.out, by repeat (first | (with_reducible first | exact HB.out | apply below_alloc | apply pw_below_drewN | apply below_drew1) | exact HB.out)⟩
def spec_CutEntry.f (k : Nat) (l0 : List (S47)) (a1 : ByteArray) : Option ((List (S47)) × Bool) := (spec_TreeOk.f k l0).bind fun t434 => (if t434 = true then ((spec_l10Find.f k l0 a1).bind fun t438 => (if t438 < 0 then ((spec_l10Copy.f l0).bind fun t439 => (some (t439, false))) else ((spec_l10Cut.f k l0 a1).bind fun bt442 => (some (bt442.1, bt442.2))))) else (some ((([] : List (S47))), false)))
set_option maxHeartbeats 8000000 in
set_option maxRecDepth 100000 in
theorem spec_CutEntry.calls (k : Nat) (A0 : Option Addr) (c0 : Nat) (l0 : List (S47)) (a1 : ByteArray) (r1 : List (S47)) (r2 : Bool) (w : World) (hr0 : Kd.C k47 w A0 l0.length l0) (hc0 : l0.length ≤ c0) (h : spec_CutEntry.f k l0 a1 = some (r1, r2)) :
    Calls Tryd.prog 25 #[.slice A0 l0.length c0, .string a1] w fun e w' => ∃ v0_ : Value, e = .returned (.tuple #[v0_, .bool r2]) ∧ Kd.R k47 47 w' w.heap.size (fun _ => True) v0_ r1 ∧ Below w.heap.size w w' := by
  have HR0 := Aside0.mk hr0
  have HC0 := Aside0.mk hc0
  clear hr0 hc0
  have HB := Aside0.mk (Below.refl w.heap.size w)
  have H : ((spec_TreeOk.f k l0).bind fun t434 => (if t434 = true then ((spec_l10Find.f k l0 a1).bind fun t438 => (if t438 < 0 then ((spec_l10Copy.f l0).bind fun t439 => (some (t439, false))) else ((spec_l10Cut.f k l0 a1).bind fun bt442 => (some (bt442.1, bt442.2))))) else (some ((([] : List (S47))), false)))) = some (r1, r2) := h
  clear h
  replace H := Option.bind_eq_some_iff.mp H
  obtain ⟨t434, A30, H⟩ := H
  replace H : (if t434 = true then ((spec_l10Find.f k l0 a1).bind fun t438 => (if t438 < 0 then ((spec_l10Copy.f l0).bind fun t439 => (some (t439, false))) else ((spec_l10Cut.f k l0 a1).bind fun bt442 => (some (bt442.1, bt442.2))))) else (some ((([] : List (S47))), false))) = some (r1, r2) := H
  have A3 := Aside0.mk A30
  clear A30
  by_cases c4 : t434 = true
  · subst c4
    have H1 : ((spec_l10Find.f k l0 a1).bind fun t438 => (if t438 < 0 then ((spec_l10Copy.f l0).bind fun t439 => (some (t439, false))) else ((spec_l10Cut.f k l0 a1).bind fun bt442 => (some (bt442.1, bt442.2))))) = some (r1, r2) := by rw [if_pos rfl] at H; exact H
    clear H
    have H := H1
    clear H1
    replace H := Option.bind_eq_some_iff.mp H
    obtain ⟨t438, A50, H⟩ := H
    replace H : (if t438 < 0 then ((spec_l10Copy.f l0).bind fun t439 => (some (t439, false))) else ((spec_l10Cut.f k l0 a1).bind fun bt442 => (some (bt442.1, bt442.2)))) = some (r1, r2) := H
    have A5 := Aside0.mk A50
    clear A50
    by_cases c6 : t438 < 0
    · rw [if_pos c6] at H
      have c6b0 : decide (t438 < 0) = true := decide_eq_true c6
      clear c6
      replace H := Option.bind_eq_some_iff.mp H
      obtain ⟨t439, A70, H⟩ := H
      replace H : (some (t439, false)) = some (r1, r2) := H
      have A7 := Aside0.mk A70
      clear A70
      simp only [Option.some.injEq, Prod.mk.injEq] at H
      obtain ⟨rfl, rfl⟩ := H
      go_enter Tryd.func25, Tryd.ntmps25
      go_wp2_with (first | ((with_reducible refine gate_callee (f := 38) rfl ?_); refine goesL_ (some 7) rfl rfl Tryd.func38 (by kernel_rfl) rfl #[.slice A0 l0.length c0] rfl (by (try simp only [List.map_toArray, List.map_cons, List.map_nil]); first | done | rfl | (simp only [List.length_drop, List.length_take]; rfl)) ?_; (with_reducible refine (spec_TreeOk.calls k _ _ l0 true _ ?side1 ?side2 A3.out).mono ?_); (case side1 => repeat (first | exact HR0.out | (with_reducible refine Kd.C_alloc ?_ _) | (with_reducible refine Kd.C_drewN ?_ _) | (with_reducible refine Kd.C_drew ?_))); (case side2 => exact HC0.out); rintro e w8 ⟨rfl, hb⟩; refine ⟨_, rfl, ?_⟩; have n0_ := Aside0.mk (below_step (by repeat (first | (with_reducible first | exact HB.out | apply below_alloc | apply pw_below_drewN | apply below_drew1) | exact HB.out)) hb); clear HB; have HB := n0_; clear n0_; (try clear hb); (try clear hb2); (try clear hk); (try clear hi)) | ((with_reducible refine gate_callee (f := 56) rfl ?_); refine goesL_ (some 12) rfl rfl Tryd.func56 (by kernel_rfl) rfl #[.slice A0 l0.length c0, .string a1] rfl (by (try simp only [List.map_toArray, List.map_cons, List.map_nil]); first | done | rfl | (simp only [List.length_drop, List.length_take]; rfl)) ?_; (with_reducible refine (spec_l10Find.calls k _ _ l0 a1 t438 _ ?side1 ?side2 A5.out).mono ?_); (case side1 => repeat (first | exact (Kd.C_below HR0.out HB.out) | (with_reducible refine Kd.C_alloc ?_ _) | (with_reducible refine Kd.C_drewN ?_ _) | (with_reducible refine Kd.C_drew ?_))); (case side2 => exact HC0.out); rintro e w' ⟨rfl, ⟨nd, rfl⟩⟩; refine ⟨_, rfl, ?_⟩) | ((with_reducible refine gate_callee (f := 57) rfl ?_); refine goesL_ (some 15) rfl rfl Tryd.func57 (by kernel_rfl) rfl #[.slice A0 l0.length c0] rfl (by (try simp only [List.map_toArray, List.map_cons, List.map_nil]); first | done | rfl | (simp only [List.length_drop, List.length_take]; rfl)) ?_; (with_reducible refine (spec_l10Copy.calls _ _ l0 t439 _ ?side1 ?side2 A7.out).mono ?_); (case side1 => repeat (first | exact (Kd.C_below HR0.out (by repeat (first | (with_reducible first | exact HB.out | apply below_alloc | apply pw_below_drewN | apply below_drew1) | exact HB.out))) | (with_reducible refine Kd.C_alloc ?_ _) | (with_reducible refine Kd.C_drewN ?_ _) | (with_reducible refine Kd.C_drew ?_))); (case side2 => exact HC0.out); rintro e w9 ⟨v440, rfl, ho0, hb⟩; refine ⟨_, rfl, ?_⟩; have n0_ := Aside0.mk (Kd.R_lower ho0 (below_size (by repeat (first | (with_reducible first | exact HB.out | apply below_alloc | apply pw_below_drewN | apply below_drew1) | exact HB.out)))); have n1_ := Aside0.mk (below_step (by repeat (first | (with_reducible first | exact HB.out | apply below_alloc | apply pw_below_drewN | apply below_drew1) | exact HB.out)) hb); clear HB; have HO441 := n0_; have HB := n1_; clear n0_ n1_; (try clear hb); (try clear hb2); (try clear hk); (try clear hi); (try clear ho0)))
      go_ret2
      exact ⟨_, by first | rfl | (simp [errW_none, errW_some] <;> rfl) | (simp [*, errW_none, errW_some] <;> rfl), by (with_reducible repeat (first | apply Kd.R_alloc | apply Kd.R_drewN | apply Kd.R_drew)); exact HO441.out, by repeat (first | (with_reducible first | exact HB.out | apply below_alloc | apply pw_below_drewN | apply below_drew1) | exact HB.out)⟩
    · rw [if_neg c6] at H
      have c6b0 : decide (t438 < 0) = false := decide_eq_false c6
      clear c6
      replace H := Option.bind_eq_some_iff.mp H
      obtain ⟨⟨t442, t443⟩, A100, H⟩ := H
      replace H : (some (t442, t443)) = some (r1, r2) := H
      have A10 := Aside0.mk A100
      clear A100
      simp only [Option.some.injEq, Prod.mk.injEq] at H
      obtain ⟨rfl, rfl⟩ := H
      go_enter Tryd.func25, Tryd.ntmps25
      go_wp2_with (first | ((with_reducible refine gate_callee (f := 38) rfl ?_); refine goesL_ (some 7) rfl rfl Tryd.func38 (by kernel_rfl) rfl #[.slice A0 l0.length c0] rfl (by (try simp only [List.map_toArray, List.map_cons, List.map_nil]); first | done | rfl | (simp only [List.length_drop, List.length_take]; rfl)) ?_; (with_reducible refine (spec_TreeOk.calls k _ _ l0 true _ ?side1 ?side2 A3.out).mono ?_); (case side1 => repeat (first | exact HR0.out | (with_reducible refine Kd.C_alloc ?_ _) | (with_reducible refine Kd.C_drewN ?_ _) | (with_reducible refine Kd.C_drew ?_))); (case side2 => exact HC0.out); rintro e w11 ⟨rfl, hb⟩; refine ⟨_, rfl, ?_⟩; have n0_ := Aside0.mk (below_step (by repeat (first | (with_reducible first | exact HB.out | apply below_alloc | apply pw_below_drewN | apply below_drew1) | exact HB.out)) hb); clear HB; have HB := n0_; clear n0_; (try clear hb); (try clear hb2); (try clear hk); (try clear hi)) | ((with_reducible refine gate_callee (f := 56) rfl ?_); refine goesL_ (some 12) rfl rfl Tryd.func56 (by kernel_rfl) rfl #[.slice A0 l0.length c0, .string a1] rfl (by (try simp only [List.map_toArray, List.map_cons, List.map_nil]); first | done | rfl | (simp only [List.length_drop, List.length_take]; rfl)) ?_; (with_reducible refine (spec_l10Find.calls k _ _ l0 a1 t438 _ ?side1 ?side2 A5.out).mono ?_); (case side1 => repeat (first | exact (Kd.C_below HR0.out HB.out) | (with_reducible refine Kd.C_alloc ?_ _) | (with_reducible refine Kd.C_drewN ?_ _) | (with_reducible refine Kd.C_drew ?_))); (case side2 => exact HC0.out); rintro e w' ⟨rfl, ⟨nd, rfl⟩⟩; refine ⟨_, rfl, ?_⟩) | ((with_reducible refine gate_callee (f := 58) rfl ?_); refine goesL_ (some 18) rfl rfl Tryd.func58 (by kernel_rfl) rfl #[.slice A0 l0.length c0, .string a1] rfl (by (try simp only [List.map_toArray, List.map_cons, List.map_nil]); first | done | rfl | (simp only [List.length_drop, List.length_take]; rfl)) ?_; (with_reducible refine (spec_l10Cut.calls k _ _ l0 a1 t442 t443 _ ?side1 ?side2 A10.out).mono ?_); (case side1 => repeat (first | exact (Kd.C_below HR0.out (by repeat (first | (with_reducible first | exact HB.out | apply below_alloc | apply pw_below_drewN | apply below_drew1) | exact HB.out))) | (with_reducible refine Kd.C_alloc ?_ _) | (with_reducible refine Kd.C_drewN ?_ _) | (with_reducible refine Kd.C_drew ?_))); (case side2 => exact HC0.out); rintro e w12 ⟨v444, rfl, ho0, hb⟩; refine ⟨_, rfl, ?_⟩; have n0_ := Aside0.mk (Kd.R_lower ho0 (below_size (by repeat (first | (with_reducible first | exact HB.out | apply below_alloc | apply pw_below_drewN | apply below_drew1) | exact HB.out)))); have n1_ := Aside0.mk (below_step (by repeat (first | (with_reducible first | exact HB.out | apply below_alloc | apply pw_below_drewN | apply below_drew1) | exact HB.out)) hb); clear HB; have HO445 := n0_; have HB := n1_; clear n0_ n1_; (try clear hb); (try clear hb2); (try clear hk); (try clear hi); (try clear ho0)))
      go_ret2
      exact ⟨_, by first | rfl | (simp [errW_none, errW_some] <;> rfl) | (simp [*, errW_none, errW_some] <;> rfl), by (with_reducible repeat (first | apply Kd.R_alloc | apply Kd.R_drewN | apply Kd.R_drew)); exact HO445.out, by repeat (first | (with_reducible first | exact HB.out | apply below_alloc | apply pw_below_drewN | apply below_drew1) | exact HB.out)⟩
  · replace c4 := Bool.eq_false_iff.mpr c4
    subst c4
    have H1 : (some ((([] : List (S47))), false)) = some (r1, r2) := by rw [if_neg (show ¬ (false = true) by decide)] at H; exact H
    clear H
    have H := H1
    clear H1
    obtain ⟨y435, hy435⟩ : ∃ y_ : List (S47), y_ = (([] : List (S47))) := ⟨_, rfl⟩
    replace H : (some (y435, false)) = some (r1, r2) := by first | (rw [hy435]; with_reducible exact H) | (have H2_ := (Option.bind_some _ _).symm.trans H; rw [hy435]; with_reducible exact H2_) | (have H2_ := (Option.bind_some _ _).symm.trans H; with_reducible exact H2_) | with_reducible exact H | (rw [hy435]; exact H) | exact H
    have Ny435 := Aside0.mk hy435
    clear hy435
    simp only [Option.some.injEq, Prod.mk.injEq] at H
    obtain ⟨rfl, rfl⟩ := H
    go_enter Tryd.func25, Tryd.ntmps25
    go_wp2_with (first | ((with_reducible refine gate_callee (f := 38) rfl ?_); refine goesL_ (some 7) rfl rfl Tryd.func38 (by kernel_rfl) rfl #[.slice A0 l0.length c0] rfl (by (try simp only [List.map_toArray, List.map_cons, List.map_nil]); first | done | rfl | (simp only [List.length_drop, List.length_take]; rfl)) ?_; (with_reducible refine (spec_TreeOk.calls k _ _ l0 false _ ?side1 ?side2 A3.out).mono ?_); (case side1 => repeat (first | exact HR0.out | (with_reducible refine Kd.C_alloc ?_ _) | (with_reducible refine Kd.C_drewN ?_ _) | (with_reducible refine Kd.C_drew ?_))); (case side2 => exact HC0.out); rintro e w13 ⟨rfl, hb⟩; refine ⟨_, rfl, ?_⟩; have n0_ := Aside0.mk (below_step (by repeat (first | (with_reducible first | exact HB.out | apply below_alloc | apply pw_below_drewN | apply below_drew1) | exact HB.out)) hb); clear HB; have HB := n0_; clear n0_; (try clear hb); (try clear hb2); (try clear hk); (try clear hi)) | ((with_reducible refine gate_dst (N := 9) rfl ?_); refine Kd.R_lit k47 _ 47 ?hg (N := 9) ?hd (xs := ([] : List (S47))) (inner := []) (ok := fun _ => True) (okp := fun _ => True) ?hr ?hp (fun _ hk => hk) trivial (Below.refl _ _) (Nat.le_refl _) (by simp) ?_; (case hd => rfl); (case hg => rfl); (case hr => first | (go_simp; done) | (go_simp; rfl)); (case hp => exact (Reps.none _ _)); intro v436 w14 ho15 hb hg_ hnew_; clear hg_ hnew_; (first | rw [← Ny435.out] at ho15 | (simp only [Int.reduceToNat] at ho15; rw [← Ny435.out] at ho15)); have n0_ := Aside0.mk (Kd.R_lower ho15 (below_size (by repeat (first | (with_reducible first | exact HB.out | apply below_alloc | apply pw_below_drewN | apply below_drew1) | exact HB.out)))); have n1_ := Aside0.mk (below_step (by repeat (first | (with_reducible first | exact HB.out | apply below_alloc | apply pw_below_drewN | apply below_drew1) | exact HB.out)) hb); clear HB; have HO437 := n0_; have HB := n1_; clear n0_ n1_; clear hb ho15))
    go_ret2
    exact ⟨_, by first | rfl | (simp [errW_none, errW_some] <;> rfl) | (simp [*, errW_none, errW_some] <;> rfl), by (with_reducible repeat (first | apply Kd.R_alloc | apply Kd.R_drewN | apply Kd.R_drew)); exact HO437.out, by repeat (first | (with_reducible first | exact HB.out | apply below_alloc | apply pw_below_drewN | apply below_drew1) | exact HB.out)⟩
def impl_cloneTree.f (l0 : List S47) : Option (List S47) := if l0.length < 2932031007402 then some l0 else none
set_option maxHeartbeats 1000000 in
theorem impl_cloneTree.calls (A0 : Option Addr) (c0 : Nat) (l0 : List S47) (r : List S47) (w : World) (hr0 : Kd.C k47 w A0 l0.length l0) (hc0 : l0.length ≤ c0) (h : impl_cloneTree.f l0 = some r) :
    Calls Tryd.prog 59 #[.slice A0 l0.length c0] w fun e w' => ∃ v0_ : Value, e = .returned (v0_) ∧ Kd.R k47 47 w' w.heap.size (fun _ => True) v0_ r ∧ Below w.heap.size w w' := by
  unfold impl_cloneTree.f at h
  by_cases c2 : l0.length < 2932031007402
  · rw [if_pos c2] at h
    obtain rfl := Option.some.inj h
    have HR0 := Aside0.mk hr0
    have HC0 := Aside0.mk hc0
    have LM := Aside0.mk c2
    clear hr0 hc0 h c2
    go_enter Tryd.func59, Tryd.ntmps59
    go_wp2_with (first | ((with_reducible refine gate_builtin (b := .append) (xs := #[.const (.slice none 0 0), .tmp 3]) rfl ?_); refine Kd.R_append_rows k47 (w0 := w) w.heap.size rfl (.const (.slice none 0 0)) (.tmp 3) 25 47 (.agg #[(.string ⟨#[]⟩), (.int .i64 0), (.string ⟨#[]⟩), (.bool false)]) 48 rfl Tryd.underlying25 info47 rfl (by decide) (by omega) (.slice none 0 0) [] l0 _ _ _ (fun _ => True) (fun _ => False) rfl rfl (Kd.R_nil _ _ _ _ _) HR0.out (fun _ _ h => h) (fun _ h => h.elim) (fun _ _ => trivial) (Below.refl _ _) (Nat.le_refl _) (by have := LM.out; simp only [List.length_nil]; omega) ?_; intro v391 w5 ho hb hg hat; rw [List.nil_append] at ho))
    go_ret
    exact ⟨_, rfl, ho, hb⟩
  · rw [if_neg c2] at h
    cases h
end Go.Proofs.YtgghefjkkidaoaaDoor.P
end

section
namespace Go.Proofs.YtgghefjkkidaoaaDoor.P
open Go.RowKit Go.Proofs.YtgghefjkkidaoaaDoorW.PrintWords Go.Proofs.YtgghefjkkidaoaaDoorW.PrintLast Go.Proofs.YtgghefjkkidaoaaDoorW.PrintMore Go.Proofs.YtgghefjkkidaoaaDoorM
attribute [local go_sem] max2_int min2_int max_two min_two max_three min_three max_four min_four   -- for this text's walks alone
set_option linter.unusedVariables false
set_option linter.unusedSimpArgs false
def impl_CutEntry.cutB (p : ByteArray) (e : S47) : Bool := (e.f0.toList == p.toList) || Lib.hasPrefix e.f0.data.toList (p ++ (⟨#[47]⟩ : ByteArray)).data.toList
set_option maxHeartbeats 400000 in
theorem impl_CutEntry.cl (x : S47) (p : ByteArray) (g : Nat) (w : World) (hp : p.size ≤ 1048576) (hb : w.cell? ⟨g, 0, none⟩ = some (.string p)) (hg : g < w.heap.size) :
  Calls Tryd.prog 61 #[.agg #[.string x.f0, .int .i64 x.f1, .string x.f2, .bool x.f3], .pointer (some ⟨g, 0, none⟩)] w fun e w' => e = .returned (.bool (impl_CutEntry.cutB p x)) ∧ Below w.heap.size w w' := by
  have hu47 := Tryd.underlying47
  have hsz : p.size + 1 ≤ 9223372036854775807 := by omega
  have h1 : (⟨#[47]⟩ : ByteArray).size = 1 := rfl
  cases hc : (x.f0.toList == p.toList) with
  | true =>
    go_enter Tryd.func61, Tryd.ntmps61
    go_wp2
    go_ret
    exact ⟨by rw [impl_CutEntry.cutB, hc]; rfl, by repeat (first | (with_reducible first | exact Below.refl _ _ | apply below_alloc | apply pw_below_drewN | apply below_drew1) | exact Below.refl _ _)⟩
  | false =>
    go_enter Tryd.func61, Tryd.ntmps61
    go_wp2_with (go_at_call 62; refine (Tryd.strings_HasPrefix _ _ _).mono ?_; rintro e w8 ⟨rfl, rfl⟩)
    go_ret
    exact ⟨by rw [impl_CutEntry.cutB, hc]; rfl, by repeat (first | (with_reducible first | exact Below.refl _ _ | apply below_alloc | apply pw_below_drewN | apply below_drew1) | exact Below.refl _ _)⟩
def impl_CutEntry.first (q : S47 → Bool) : List S47 → Int → Int
  | [], _ => -1
  | e :: t, i => if q e = true then i else impl_CutEntry.first q t (i + 1)
theorem impl_CutEntry.fi_end (q : S47 → Bool) (l : List S47) (i : Nat) (h : l.length ≤ i) : impl_CutEntry.first q (l.drop i) i = -1 := by
  rw [List.drop_eq_nil_of_le h]; rfl
theorem impl_CutEntry.fi_yes (q : S47 → Bool) (l : List S47) (i : Nat) (h : i < l.length) (hc : q (rd_T47 l i) = true) : impl_CutEntry.first q (l.drop i) i = i := by
  rw [List.drop_eq_getElem_cons h, impl_CutEntry.first, if_pos]
  simpa [rd_T47, List.getD_eq_getElem?_getD, List.getElem?_eq_getElem h] using hc
theorem impl_CutEntry.fi_no (q : S47 → Bool) (l : List S47) (i : Nat) (h : i < l.length) (hc : q (rd_T47 l i) = false) : impl_CutEntry.first q (l.drop i) i = impl_CutEntry.first q (l.drop (i + 1)) ((i + 1 : Nat) : Int) := by
  rw [List.drop_eq_getElem_cons h, impl_CutEntry.first, if_neg]
  · rfl
  · simpa [rd_T47, List.getD_eq_getElem?_getD, List.getElem?_eq_getElem h] using hc
set_option maxRecDepth 100000 in
set_option maxHeartbeats 1000000 in
theorem impl_CutEntry.indexFunc (A0 : Option Addr) (c0 : Nat) (l0 : List S47) (p : ByteArray) (g : Nat) (w : World) (hp : p.size ≤ 1048576) (hr0 : Kd.C k47 w A0 l0.length l0) (hc0 : l0.length ≤ c0) (hb : w.cell? ⟨g, 0, none⟩ = some (.string p)) (hg : g < w.heap.size) :
  Calls Tryd.prog 73 #[.slice A0 l0.length c0, .func (.func 61) #[] #[.pointer (some ⟨g, 0, none⟩)]] w fun e w' => e = .returned (.int .i64 (impl_CutEntry.first (impl_CutEntry.cutB p) l0 0)) ∧ Below w.heap.size w w' := by
  have hu47 := Tryd.underlying47
  have HR0 := Aside0.mk hr0
  have HC0 := Aside0.mk hc0
  have HX := Aside0.mk (And.intro hb hg)
  have hl := hr0.2.1
  clear hr0 hc0 hb hg
  have HB := Aside0.mk (Below.refl w.heap.size w)
  go_enter Tryd.func73, Tryd.ntmps73
  go_wp2
  go_loopw [8] (fun v8 w' => ∃ i : Nat, v8 = .int .i64 i ∧ i ≤ l0.length ∧ Aside0 (impl_CutEntry.first (impl_CutEntry.cutB p) l0 0 = impl_CutEntry.first (impl_CutEntry.cutB p) (l0.drop i) i) ∧ Aside0 (Below w.heap.size w w')) (fun v8 _ => l0.length - (intOf v8).toNat)
  case atStart => exact ⟨0, rfl, Nat.zero_le _, ⟨rfl⟩, ⟨Below.refl _ _⟩⟩
  case round =>
    clear HB
    obtain ⟨i, rfl, hi, HF, HB⟩ := hrel
    by_cases hlt : i < l0.length
    · have p1 : 0 ≤ (i : Int) := by omega
      have q1 : (i : Int) < (l0.length : Int) := by omega
      obtain ⟨ad, e1, hx_0, hx_1, hx_2, hx_3⟩ := at_T47 HR0.out i p1 q1
      cases e1
      replace hx_0 := (HB.out.cell (World.block_lt_of_cell? w _ hx_0)).trans hx_0
      replace hx_1 := (HB.out.cell (World.block_lt_of_cell? w _ hx_1)).trans hx_1
      replace hx_2 := (HB.out.cell (World.block_lt_of_cell? w _ hx_2)).trans hx_2
      replace hx_3 := (HB.out.cell (World.block_lt_of_cell? w _ hx_3)).trans hx_3
      simp only [Int.toNat_natCast] at hx_0 hx_1 hx_2 hx_3
      have hbx := (HB.out.cell (World.block_lt_of_cell? w _ HX.out.1)).trans HX.out.1
      have hs := HB.out.size
      have c1 : decide ((i : Int) < (l0.length : Int)) = true := by simpa using hlt
      have c2 : decide ((i : Nat) < l0.length) = true := by simpa using hlt
      cases hcc : impl_CutEntry.cutB p (rd_T47 l0 i) with
      | true =>
        have HCC := Aside0.mk hcc
        clear hcc
        go_wp2_with (go_at_call 61; refine (impl_CutEntry.cl (rd_T47 l0 i) p g _ hp hbx (by have := HX.out.2; omega)).mono ?_; rintro e w8 ⟨rfl, hb8⟩; rw [HCC.out])
        go_ret
        refine ⟨?_, below_step HB.out hb8⟩
        rw [HF.out, impl_CutEntry.fi_yes _ l0 i hlt HCC.out]
        rfl
      | false =>
        have HCC := Aside0.mk hcc
        clear hcc
        have hw : wrap64 ((i : Int) + 1) = ((i + 1 : Nat) : Int) := by unfold wrap64; omega
        go_wp2_with (go_at_call 61; refine (impl_CutEntry.cl (rd_T47 l0 i) p g _ hp hbx (by have := HX.out.2; omega)).mono ?_; rintro e w8 ⟨rfl, hb8⟩; rw [HCC.out])
        go_roundw
        case rel => exact ⟨i + 1, by first | rfl | (rw [hw]) | (congr 1), by omega, ⟨by rw [HF.out, impl_CutEntry.fi_no _ l0 i hlt HCC.out]⟩, ⟨below_step HB.out hb8⟩⟩
        case measure => simp [intOf]; omega
    · have c1 : decide ((i : Int) < (l0.length : Int)) = false := by simpa using hlt
      have c2 : decide ((i : Nat) < l0.length) = false := by simpa using hlt
      go_wp2
      go_ret
      refine ⟨?_, HB.out⟩
      rw [HF.out, impl_CutEntry.fi_end _ l0 i (by omega)]
      rfl
theorem impl_CutEntry.run_clear_cells {P : Program} (w : World) (t e ty : TypeId) (z : Value) (ht : P.underlying t = some (.slice e)) (hv : ∀ w, (zeroValue e).run P w = .ok z w) (b o n c : Nat) (hn : 0 < n) (h1 : ∀ q ∈ (Builtin.zeroCells z.cells n).toList, q.oneCell' = true)
    (hc : ∀ j, j < (Builtin.zeroCells z.cells n).toList.length → (w.cell? ⟨b, o + j, none⟩).isSome = true) (hf : ∀ j, j < (Builtin.zeroCells z.cells n).toList.length → w.frozen? ⟨b, o + j, none⟩ = false) :
    (Builtin.clear_ #[t] ty #[.slice (some ⟨b, o, none⟩) n c]).run P w = .ok (.tuple #[]) (w.setCells b o (Builtin.zeroCells z.cells n).toList) := by
  have hst := run_storeCells_cells (P := P) b o (Builtin.zeroCells z.cells n).toList 0 w (by simpa using hc) (by simpa using hf) h1
  simp only [Nat.add_zero] at hst
  obtain ⟨m, rfl⟩ : ∃ m, n = m + 1 := ⟨n - 1, by omega⟩
  simp [Builtin.clear_, run_underlying ht, hv, hst]
theorem impl_CutEntry.R_cleared {α : Type} {d : Kd α} {e g n cap : Nat} {W : World} {base : Nat} {ok : Nat → Prop} {ys : List α} (h : d.R e W base ok (.slice (some ⟨g, 0, none⟩) n cap) ys) (i : Nat) (hi : i ≤ n) (seg : List Value) (hs : i * d.sz + seg.length ≤ n * d.sz) :
    d.R e (W.setCells g (i * d.sz) seg) base ok (.slice (some ⟨g, 0, none⟩) i cap) (ys.take i) ∧ W.grownBy (W.setCells g (i * d.sz) seg) (some g) := by
  obtain ⟨hn, hnc, _⟩ := Kd.R_reads' h
  have h2 := Kd.R_take h (m := i) (by omega)
  obtain ⟨s1, s2, s3, s4⟩ := setCells_same g seg (i * d.sz) W
  have hfar : ∀ k, k ≠ g → (W.setCells g (i * d.sz) seg).heap[k]? = W.heap[k]? := fun k hk => setCells_far seg _ k hk
  refine ⟨?_, ⟨s1, s2, s3, by rw [s4]; exact Nat.le_refl _, fun k _ hk => hfar k (fun he => hk (by rw [he]))⟩⟩
  obtain ⟨hok, inner, ⟨ho1, ho2⟩, hr⟩ := h2
  rcases ho2 with ⟨hv, _⟩ | ⟨g', cap', cur, hv, hb, hh, hnc', hcm, hcs, ht⟩
  · cases hv
  injection hv with ha _ hc
  injection ha with ha
  injection ha with hg
  subst hg; subst hc
  have hfit : i * d.sz + seg.length ≤ cur.size := by
    have : n * d.sz ≤ cap * d.sz := Nat.mul_le_mul_right _ hnc
    omega
  obtain ⟨cur', h3, h4, h5⟩ := setCells_row seg (i * d.sz) W cur hh hfit
  have hlen : (ys.take i).length = i := by rw [List.length_take]; omega
  refine ⟨hok, inner, ⟨ho1, .inr ⟨g, cap, cur', by rw [hlen], hb, h3, hnc', hcm, by rw [h4, hcs], ?_⟩⟩, hr.imp_ (fun _ _ hp => d.M_move (fun k hk => hfar k (fun he => hk.2 (by rw [he]; simp [Value.ownBlock]))) hp)⟩
  rw [h5, ← ht, hlen, List.append_assoc, List.take_append_of_le_length (by rw [List.length_take, Array.length_toList]; omega), List.take_take, Nat.min_self]
theorem impl_CutEntry.R_cells {α : Type} {d : Kd α} {e g n cap : Nat} {W : World} {base : Nat} {ok : Nat → Prop} {ys : List α} (h : d.R e W base ok (.slice (some ⟨g, 0, none⟩) n cap) ys) :
    (∀ q, q < cap * d.sz → (W.cell? ⟨g, q, none⟩).isSome = true) ∧ ∀ q, W.frozen? ⟨g, q, none⟩ = false := by
  obtain ⟨hok, inner, ⟨ho1, ho2⟩, hr⟩ := h
  rcases ho2 with ⟨hv, _⟩ | ⟨g', cap', cur, hv, hb, hh, hnc', hcm, hcs, ht⟩
  · cases hv
  injection hv with ha _ hc
  injection ha with ha
  injection ha with hg
  subst hg; subst hc
  refine ⟨fun q hq => ?_, fun q => blk_frozen hh _⟩
  rw [cell_of_row W g _ cur e (0, 0) hh, Array.getElem?_eq_getElem (by omega)]
  rfl
theorem impl_CutEntry.below_grownBy {w0 w w1 : World} {g : Nat} (h : Below w0.heap.size w0 w) (hg : w0.heap.size ≤ g) (hw : w.grownBy w1 (some g)) : Below w0.heap.size w0 w1 :=
  h.trans ⟨hw.os, hw.tape, hw.output, hw.size, fun k hk => by
    rcases Nat.lt_or_ge k w.heap.size with hlt | hge
    · exact hw.block k hlt (fun he => by injection he with he; omega)
    · exact absurd (Nat.lt_of_lt_of_le hk h.size) (by omega)⟩
def impl_CutEntry.gd (t : List S47) (i : Nat) : S47 := t.getD i z47
theorem impl_CutEntry.gd_get (t : List S47) (i : Nat) (h : i < t.length) : impl_CutEntry.gd t i = t[i] := by simp [impl_CutEntry.gd, List.getD_eq_getElem?_getD, List.getElem?_eq_getElem h]
theorem impl_CutEntry.zeros (n : Nat) : (Builtin.zeroCells (Value.agg #[(.string ⟨#[]⟩), (.int .i64 0), (.string ⟨#[]⟩), (.bool false)]).cells n).toList.length = n * 4 := by
  simp [Builtin.zeroCells, Value.cells]
theorem impl_CutEntry.zeros_one (n : Nat) : ∀ q ∈ (Builtin.zeroCells (Value.agg #[(.string ⟨#[]⟩), (.int .i64 0), (.string ⟨#[]⟩), (.bool false)]).cells n).toList, q.oneCell' = true := by
  intro q hq
  simp only [Builtin.zeroCells, Value.cells, Array.toList_map, List.mem_map, Array.mem_toList_iff, Array.mem_range] at hq
  obtain ⟨i, _, rfl⟩ := hq
  have h4 : i % (#[(Value.string ⟨#[]⟩), (Value.int .i64 0), (Value.string ⟨#[]⟩), (Value.bool false)] : Array Value).size < 4 := Nat.mod_lt _ (by decide)
  generalize i % (#[(Value.string ⟨#[]⟩), (Value.int .i64 0), (Value.string ⟨#[]⟩), (Value.bool false)] : Array Value).size = j at h4 ⊢
  match j, h4 with
  | 0, _ => rfl
  | 1, _ => rfl
  | 2, _ => rfl
  | 3, _ => rfl
theorem impl_CutEntry.zv (w : World) : (zeroValue 47).run Tryd.prog w = .ok (.agg #[(.string ⟨#[]⟩), (.int .i64 0), (.string ⟨#[]⟩), (.bool false)]) w := by
  have h := info47
  obtain ⟨i0, hi, hz⟩ := Option.map_eq_some_iff.1 h
  simp only [Prod.mk.injEq] at hz
  simp [zeroValue, typeInfo, hi, hz.1]
theorem impl_CutEntry.first_tells (q : S47 → Bool) : ∀ (l : List S47) (i : Nat), (impl_CutEntry.first q l (i : Int) = -1 ∧ l.filter (fun e => !q e) = l) ∨ ∃ j, j < l.length ∧ impl_CutEntry.first q l (i : Int) = ((i + j : Nat) : Int) ∧ (l.take (j + 1)).filter (fun e => !q e) = l.take j
  | [], i => .inl ⟨rfl, rfl⟩
  | e :: l, i => by
    rw [impl_CutEntry.first]
    cases h : q e with
    | true => exact .inr ⟨0, by simp, by simp, by simp [h]⟩
    | false =>
      have hi : ((i : Int) + 1) = ((i + 1 : Nat) : Int) := by omega
      rw [if_neg (by decide), hi]
      rcases impl_CutEntry.first_tells q l (i + 1) with ⟨h1, h2⟩ | ⟨j, h1, h2, h3⟩
      · exact .inl ⟨h1, by rw [List.filter_cons, h]; simp [h2]⟩
      · refine .inr ⟨j + 1, by simp; omega, by rw [h2]; omega, ?_⟩
        rw [List.take_succ_cons, List.filter_cons, h, List.take_succ_cons]
        simp [h3]
set_option maxRecDepth 100000 in
set_option maxHeartbeats 2000000 in
theorem impl_CutEntry.deleteFunc (v : Value) (xs : List S47) (p : ByteArray) (gq : Nat) (w0 w : World) (hp : p.size ≤ 1048576) (hB : Below w0.heap.size w0 w) (hq : w0.cell? ⟨gq, 0, none⟩ = some (.string p)) (hgq : gq < w0.heap.size)
    (hO : Kd.R k47 47 w w0.heap.size (fun _ => True) v xs) :
    Calls Tryd.prog 60 #[v, .func (.func 61) #[] #[.pointer (some ⟨gq, 0, none⟩)]] w fun e w' => ∃ v', e = .returned v' ∧ Kd.R k47 47 w' w0.heap.size (fun _ => True) v' (xs.filter (fun e => !impl_CutEntry.cutB p e)) ∧ Below w0.heap.size w0 w' := by
  have hu47 := Tryd.underlying47
  obtain ⟨A, c, rfl, hc, hC⟩ := Kd.R_reads hO
  have hl := hC.2.1
  have hqw : w.cell? ⟨gq, 0, none⟩ = some (.string p) := (hB.cell (World.block_lt_of_cell? w0 _ hq)).trans hq
  have hgw : gq < w.heap.size := by have := hB.size; omega
  rcases impl_CutEntry.first_tells (impl_CutEntry.cutB p) xs 0 with ⟨h1, h2⟩ | ⟨j0, hj0, h1, h2⟩
  · have HO := Aside0.mk hO
    have HB := Aside0.mk hB
    have H1 := Aside0.mk h1
    have H2 := Aside0.mk h2
    have HQ := Aside0.mk (And.intro hqw hgw)
    have HC := Aside0.mk (And.intro hC hc)
    clear hO hB h1 h2 hqw hgw hq hgq hC hc
    go_enter Tryd.func60, Tryd.ntmps60
    go_wp2_with (go_at_call 73; refine (impl_CutEntry.indexFunc A c xs p gq _ hp HC.out.1 HC.out.2 HQ.out.1 HQ.out.2).mono ?_; rintro e w8 ⟨rfl, hb8⟩; rw [show (0 : Int) = ((0 : Nat) : Int) from rfl, H1.out])
    go_ret
    exact ⟨_, rfl, by rw [H2.out]; exact Kd.R_below HO.out hb8, below_step HB.out hb8⟩
  · obtain ⟨g, cap_, hv, hbg, hgl, hcells⟩ := Kd.R_form hO (by omega)
    injection hv with hA _ hc2
    subst hA; subst hc2
    rw [show 0 + j0 = j0 by omega] at h1
    have HO := Aside0.mk hO
    have HB := Aside0.mk hB
    have H1 := Aside0.mk h1
    have H2 := Aside0.mk h2
    have HG := Aside0.mk hbg
    have HQ := Aside0.mk (And.intro hq (And.intro hqw (And.intro hgw hgq)))
    have HC := Aside0.mk (And.intro hC hc)
    have hw0 : wrap64 ((j0 : Int) + 1) = ((j0 + 1 : Nat) : Int) := by unfold wrap64; omega
    clear hO hB h1 h2 hqw hgw hq hgq hC hc hcells hgl hbg
    have hc : xs.length ≤ c := HC.out.2
    have cj : ((j0 : Int) == -1) = false := by rw [beq_eq_false_iff_ne]; omega
    go_enter Tryd.func60, Tryd.ntmps60
    go_wp2_with (go_at_call 73; refine (impl_CutEntry.indexFunc _ c xs p gq _ hp HC.out.1 HC.out.2 HQ.out.2.1 HQ.out.2.2.1).mono ?_; rintro e w8 ⟨rfl, hb8⟩; rw [show (0 : Int) = ((0 : Nat) : Int) from rfl, H1.out])
    have HO1 := Aside0.mk (Kd.R_below HO.out hb8)
    have HB1 := Aside0.mk (below_step HB.out hb8)
    clear hb8 HO HB
    go_loopw [5, 6] (fun v5 v6 w' => ∃ (i j : Nat) (ys : List S47), v5 = .int .i64 i ∧ v6 = .int .i64 j ∧ i < j ∧ j ≤ xs.length ∧ Aside0 (ys.length = xs.length ∧ ys.take i = (xs.take j).filter (fun e => !impl_CutEntry.cutB p e) ∧ ys.drop j = xs.drop j) ∧ Aside0 (Kd.R k47 47 w' w0.heap.size (fun _ => True) (.slice (some ⟨g, 0, none⟩) xs.length c) ys) ∧ Aside0 (Below w0.heap.size w0 w')) (fun _ v6 _ => xs.length - (intOf v6).toNat)
    case atStart => exact ⟨j0, j0 + 1, xs, rfl, by first | rfl | (rw [hw0]) | (congr 1), by omega, by omega, ⟨rfl, by rw [H2.out], rfl⟩, ⟨HO1.out⟩, ⟨HB1.out⟩⟩
    case round =>
      clear HO1 HB1 HC
      obtain ⟨i, j, ys, rfl, rfl, hij, hj, HY, HO, HB⟩ := hrel
      have hyl := HY.out.1
      by_cases hlt : j < xs.length
      · obtain ⟨ce, hcl, hM, hcc, hfr⟩ := Kd.R_elem HO.out z47 (j : Int) (by omega) (by omega)
        obtain rfl := k47_openM hM
        have hx_0 : wr.cell? ⟨g, (j : Int).toNat * 4, none⟩ = some (.string (rd_T47 ys j).f0) := hcc 0 _ rfl
        have hx_1 : wr.cell? ⟨g, (j : Int).toNat * 4 + 1, none⟩ = some (.int .i64 (rd_T47 ys j).f1) := hcc 1 _ rfl
        have hx_2 : wr.cell? ⟨g, (j : Int).toNat * 4 + 2, none⟩ = some (.string (rd_T47 ys j).f2) := hcc 2 _ rfl
        have hx_3 : wr.cell? ⟨g, (j : Int).toNat * 4 + 3, none⟩ = some (.bool (rd_T47 ys j).f3) := hcc 3 _ rfl
        simp only [Int.toNat_natCast] at hx_0 hx_1 hx_2 hx_3
        clear hcl hM hcc hfr
        have c1 : decide ((j : Int) < (xs.length : Int)) = true := by simpa using hlt
        have c2 : decide ((j : Nat) < xs.length) = true := by simpa using hlt
        have hw1 : wrap64 ((j : Int) + 1) = ((j + 1 : Nat) : Int) := by unfold wrap64; omega
        have hw2 : wrap64 ((i : Int) + 1) = ((i + 1 : Nat) : Int) := by unfold wrap64; omega
        have hbx := (HB.out.cell (World.block_lt_of_cell? w0 _ HQ.out.1)).trans HQ.out.1
        have hs := HB.out.size
        have hgs : gq < wr.heap.size := by have := HQ.out.2.2.2; omega
        have hxy : rd_T47 ys j = impl_CutEntry.gd xs j := by
          have h3 := congrArg (fun l : List S47 => l[0]?) HY.out.2.2
          simp only [List.getElem?_drop, Nat.add_zero] at h3
          unfold rd_T47 impl_CutEntry.gd
          rw [Int.toNat_natCast, List.getD_eq_getElem?_getD, List.getD_eq_getElem?_getD, h3]
        have hdr : ys.drop (j + 1) = xs.drop (j + 1) := by
          have h3 := congrArg (List.drop 1) HY.out.2.2
          rwa [List.drop_drop, List.drop_drop] at h3
        have htk : (xs.take (j + 1)).filter (fun e => !impl_CutEntry.cutB p e) = (xs.take j).filter (fun e => !impl_CutEntry.cutB p e) ++ (if impl_CutEntry.cutB p (impl_CutEntry.gd xs j) = true then [] else [impl_CutEntry.gd xs j]) := by
          rw [List.take_succ_eq_append_getElem hlt, List.filter_append, impl_CutEntry.gd_get xs j hlt]
          cases h4 : impl_CutEntry.cutB p xs[j] <;> simp [h4]
        cases hcc : impl_CutEntry.cutB p (rd_T47 ys j) with
        | true =>
          have HCC := Aside0.mk hcc
          rw [hxy] at hcc
          rw [hcc, if_pos rfl, List.append_nil] at htk
          have HT := Aside0.mk (And.intro htk hdr)
          clear hcc htk hdr hxy
          go_wp2_with (go_at_call 61; refine (impl_CutEntry.cl (rd_T47 ys j) p gq _ hp (pw_cell_below (below_alloc (Below.refl _ _) _) hbx) (Nat.lt_of_lt_of_le hgs (below_alloc (Below.refl _ _) _).size)).mono ?_; rintro e w8 ⟨rfl, hb8⟩; rw [HCC.out])
          go_roundw
          case rel => exact ⟨i, j + 1, ys, rfl, by first | rfl | (rw [hw1]) | (congr 1), by omega, by omega, ⟨HY.out.1, by rw [HT.out.1]; exact HY.out.2.1, HT.out.2⟩, ⟨Kd.R_below (Kd.R_alloc HO.out _) hb8⟩, ⟨below_step (below_alloc HB.out _) hb8⟩⟩
          case measure => simp [intOf]; omega
        | false =>
          have HCC := Aside0.mk hcc
          rw [hxy] at hcc
          rw [hcc, if_neg (by decide)] at htk
          have HT := Aside0.mk (And.intro htk (And.intro hdr hxy))
          clear hcc htk hdr hxy
          have hil : i < ys.length := by omega
          go_wp2_with (first | (go_at_call 61; refine (impl_CutEntry.cl (rd_T47 ys j) p gq _ hp (pw_cell_below (below_alloc (Below.refl _ _) _) hbx) (Nat.lt_of_lt_of_le hgs (below_alloc (Below.refl _ _) _).size)).mono ?_; rintro e w8 ⟨rfl, hb8⟩; rw [HCC.out]; have HO8 := Aside0.mk (Kd.R_below (Kd.R_alloc HO.out (.cells #[.string (rd_T47 ys j).f0, .int .i64 (rd_T47 ys j).f1, .string (rd_T47 ys j).f2, .bool (rd_T47 ys j).f3] 47)) hb8); have HB8 := Aside0.mk (below_step (below_alloc HB.out (.cells #[.string (rd_T47 ys j).f0, .int .i64 (rd_T47 ys j).f1, .string (rd_T47 ys j).f2, .bool (rd_T47 ys j).f3] 47)) hb8); have hy_0 : w8.cell? ⟨wr.heap.size, 0, none⟩ = some (.string (rd_T47 ys j).f0) := pw_cell_below hb8 (by simp [go_sem]); have hy_1 : w8.cell? ⟨wr.heap.size, 1, none⟩ = some (.int .i64 (rd_T47 ys j).f1) := pw_cell_below hb8 (by simp [go_sem]); have hy_2 : w8.cell? ⟨wr.heap.size, 2, none⟩ = some (.string (rd_T47 ys j).f2) := pw_cell_below hb8 (by simp [go_sem]); have hy_3 : w8.cell? ⟨wr.heap.size, 3, none⟩ = some (.bool (rd_T47 ys j).f3) := pw_cell_below hb8 (by simp [go_sem]); clear hb8 hx_0 hx_1 hx_2 hx_3; obtain ⟨ce, hcl, hM, hcc, hfr⟩ := Kd.R_elem HO8.out z47 (i : Int) (by omega) (by omega); obtain rfl := k47_openM hM; have HP := Kd.R_seg HO8.out (i : Int) (by omega) (by omega) (seg := [.string (rd_T47 ys j).f0, .int .i64 (rd_T47 ys j).f1, .string (rd_T47 ys j).f2, .bool (rd_T47 ys j).f3]) (j := 0) hcl hcc (show 4 ≤ 4 from by decide) (x' := (⟨(rd_T47 ys j).f0, (rd_T47 ys j).f1, (rd_T47 ys j).f2, (rd_T47 ys j).f3⟩ : S47)) (k47_mkM _ _ _ (⟨(rd_T47 ys j).f0, (rd_T47 ys j).f1, (rd_T47 ys j).f2, (rd_T47 ys j).f3⟩ : S47)) (fun _ hk => hk); have hx_0 := hcc 0 _ rfl; have hx_1 := hcc 1 _ rfl; have hx_2 := hcc 2 _ rfl; have hx_3 := hcc 3 _ rfl; have hf_0 := hfr 0; have hf_1 := hfr 1; have hf_2 := hfr 2; have hf_3 := hfr 3; simp only [show (k47).sz = 4 from rfl, Nat.mul_one, Nat.add_zero, Int.toNat_natCast] at hx_0 hx_1 hx_2 hx_3 hf_0 hf_1 hf_2 hf_3; clear hcl hM hcc hfr) | ((with_reducible refine gate_store (t := 47) (p := 33) rfl ?_); refine store_event (t := 47) (p := 33) (v := ?vo_w13) (w1 := ((((w8.setCell ⟨g, i * 4, none⟩ (.string (rd_T47 ys j).f0)).setCell ⟨g, i * 4 + 1, none⟩ (.int .i64 (rd_T47 ys j).f1)).setCell ⟨g, i * 4 + 2, none⟩ (.string (rd_T47 ys j).f2)).setCell ⟨g, i * 4 + 3, none⟩ (.bool (rd_T47 ys j).f3))) ?hg ?ho ?hn ?hr ?_; (case ho => rfl); (case hg => rfl); (case hn => rfl); (case hr => first | (go_simp; done) | (go_simp; rfl)); intro w13 hw; have HO9 := Aside0.mk (show Kd.R k47 47 w13 w0.heap.size (fun _ => True) (.slice (some ⟨g, 0, none⟩) xs.length c) (ys.set i (rd_T47 ys j)) from (by rw [hw]; exact HP.1)); have HB9 := Aside0.mk (by rw [hw]; exact below_set (below_set (below_set (below_set HB8.out HG.out) HG.out) HG.out) HG.out : Below w0.heap.size w0 w13); clear HP HO8 HB8 hw hy_0 hy_1 hy_2 hy_3 hx_0 hx_1 hx_2 hx_3 hf_0 hf_1 hf_2 hf_3))
          go_roundw
          case rel => exact ⟨i + 1, j + 1, ys.set i (rd_T47 ys j), by first | rfl | (rw [hw2]) | (congr 1), by first | rfl | (rw [hw1]) | (congr 1), by omega, by omega, ⟨by rw [List.length_set]; exact HY.out.1, by rw [HT.out.1, HT.out.2.2, List.take_succ_eq_append_getElem (by rw [List.length_set]; exact hil), List.take_set_of_le (Nat.le_refl _), List.getElem_set_self, HY.out.2.1], by rw [List.drop_set_of_lt (by omega)]; exact HT.out.2.1⟩, ⟨HO9.out⟩, ⟨HB9.out⟩⟩
          case measure => simp [intOf]; omega
      · obtain rfl : j = xs.length := by omega
        have c1 : decide ((xs.length : Int) < (xs.length : Int)) = false := by simp
        have c2 : decide (xs.length < xs.length) = false := by simp
        have hi1 : i ≤ xs.length := by omega
        have hfin : ys.take i = xs.filter (fun e => !impl_CutEntry.cutB p e) := by rw [HY.out.2.1, List.take_length]
        have hzl := impl_CutEntry.zeros (xs.length - i)
        obtain ⟨hcc, hff⟩ := impl_CutEntry.R_cells HO.out
        have hR := impl_CutEntry.R_cleared HO.out i hi1 (Builtin.zeroCells (Value.agg #[(.string ⟨#[]⟩), (.int .i64 0), (.string ⟨#[]⟩), (.bool false)]).cells (xs.length - i)).toList (by rw [hzl]; show i * 4 + _ ≤ xs.length * 4; omega)
        obtain ⟨w9, hrun, hR9, hg9⟩ : ∃ w9, (Builtin.clear_ #[25] 0 #[.slice (some ⟨g, i * 4, none⟩) (xs.length - i) (c - i)]).run Tryd.prog wr = .ok (.tuple #[]) w9 ∧ Kd.R k47 47 w9 w0.heap.size (fun _ => True) (.slice (some ⟨g, 0, none⟩) i c) (ys.take i) ∧ wr.grownBy w9 (some g) :=
          ⟨_, impl_CutEntry.run_clear_cells wr 25 47 0 _ Tryd.underlying25 impl_CutEntry.zv g (i * 4) (xs.length - i) (c - i) (by omega) (impl_CutEntry.zeros_one _) (fun q hq => hcc _ (by rw [hzl] at hq; show _ < c * 4; omega)) (fun q _ => hff _), hR.1, hR.2⟩
        have HF := Aside0.mk (And.intro hfin (And.intro hR9 (impl_CutEntry.below_grownBy HB.out HG.out hg9)))
        have ci : decide ((i : Int) ≤ (xs.length : Int)) = true := by simpa using hi1
        clear hfin hzl hR hR9 hg9 hcc hff
        go_wp2
        go_ret
        exact ⟨_, rfl, by rw [← HF.out.1]; exact HF.out.2.1, HF.out.2.2⟩
def impl_CutEntry.f (k : Nat) (l0 : List S47) (a1 : ByteArray) : Option (List S47 × Bool) := (impl_TreeOk.f k l0).bind fun t => if t = true then (impl_cloneTree.f l0).bind fun y => (impl_entryAt.f y a1).bind fun i => if i < 0 then some (y, false) else if a1.size ≤ 1048576 then some (y.filter (fun e => !impl_CutEntry.cutB a1 e), true) else none else some ([], false)
set_option maxRecDepth 100000 in
set_option maxHeartbeats 2000000 in
theorem impl_CutEntry.calls (k : Nat) (A0 : Option Addr) (c0 : Nat) (l0 : List (S47)) (a1 : ByteArray) (r1 : List (S47)) (r2 : Bool) (w : World) (hE : EnvW w) (hr0 : Kd.C k47 w A0 l0.length l0) (hc0 : l0.length ≤ c0) (h : impl_CutEntry.f k l0 a1 = some (r1, r2)) :
    Calls Tryd.prog 26 #[.slice A0 l0.length c0, .string a1] w fun e w' => ∃ v0_ : Value, e = .returned (.tuple #[v0_, .bool r2]) ∧ Kd.R k47 47 w' w.heap.size (fun _ => True) v0_ r1 ∧ Below w.heap.size w w' := by
  unfold impl_CutEntry.f at h
  obtain ⟨t, ht, h⟩ := Option.bind_eq_some_iff.mp h
  -- the world behind the box
  have hb1 : Below w.heap.size w (w.alloc (.cells #[.string a1] 9)) := below_alloc (Below.refl _ _) _
  have HB1 := Aside0.mk hb1
  have HT := Aside0.mk ht
  have HE1 := Aside0.mk (EnvW.below hE hb1)
  have HR1 := Aside0.mk (And.intro (Kd.C_below hr0 hb1) hc0)
  have HQ := Aside0.mk (show (w.alloc (.cells #[.string a1] 9)).cell? ⟨w.heap.size, 0, none⟩ = some (.string a1) ∧ w.heap.size < (w.alloc (.cells #[.string a1] 9)).heap.size from ⟨by simp [go_sem], by show _ < (w.heap.push _).size; rw [Array.size_push]; omega⟩)
  clear hb1 ht hE hr0 hc0
  cases t with
  | false =>
    rw [if_neg (by decide)] at h
    obtain ⟨rfl, rfl⟩ := Prod.mk.inj (Option.some.inj h)
    clear h
    go_enter Tryd.func26, Tryd.ntmps26
    go_wp2_with (go_at_call 46; refine (impl_TreeOk.calls k A0 c0 l0 false _ HE1.out HR1.out.1 HR1.out.2 HT.out).mono ?_; rintro e w8 ⟨rfl, hb8⟩)
    exact bodyPost_ret (v := .tuple #[.slice none 0 0, .bool false]) (by simp [results, Tryd.results26, go_sem]) rfl ⟨_, rfl, Kd.R_nil _ _ _ _ _, below_step HB1.out hb8⟩
  | true =>
    rw [if_pos rfl] at h
    obtain ⟨y, hy, h⟩ := Option.bind_eq_some_iff.mp h
    obtain ⟨i, hi, h⟩ := Option.bind_eq_some_iff.mp h
    have HY := Aside0.mk (And.intro hy hi)
    clear hy hi
    by_cases hneg : i < 0
    · rw [if_pos hneg] at h
      obtain ⟨rfl, rfl⟩ := Prod.mk.inj (Option.some.inj h)
      clear h
      have cn : decide (i < 0) = true := decide_eq_true hneg
      go_enter Tryd.func26, Tryd.ntmps26
      go_wp2_with (first | (go_at_call 46; refine (impl_TreeOk.calls k A0 c0 l0 true _ HE1.out HR1.out.1 HR1.out.2 HT.out).mono ?_; rintro e w8 ⟨rfl, hb8⟩) | (go_at_call 59; refine (impl_cloneTree.calls A0 c0 l0 y _ (Kd.C_below HR1.out.1 hb8) HR1.out.2 HY.out.1).mono ?_; rintro e w9 ⟨vy, rfl, hO9, hb9⟩; (obtain ⟨Ay, cy, rfl, hcy, hCy⟩ := Kd.R_reads hO9); have hqx := pw_cell_below hb9 (pw_cell_below hb8 HQ.out.1)) | (go_at_call 54; refine (impl_entryAt.calls Ay cy y a1 i _ hCy hcy HY.out.2).mono ?_; rintro e w10 ⟨rfl, hb10⟩))
      have hb11 := below_step (below_step HB1.out hb8) hb9
      exact bodyPost_ret (v := .tuple #[.slice Ay y.length cy, .bool false]) (by simp [results, Tryd.results26, go_sem]) rfl ⟨_, rfl, Kd.R_lower (Kd.R_below hO9 hb10) (by have := HB1.out.size; have := hb8.size; omega), below_step hb11 hb10⟩
    · rw [if_neg hneg] at h
      by_cases hp : a1.size ≤ 1048576
      · rw [if_pos hp] at h
        obtain ⟨rfl, rfl⟩ := Prod.mk.inj (Option.some.inj h)
        clear h
        have cn : decide (i < 0) = false := decide_eq_false hneg
        go_enter Tryd.func26, Tryd.ntmps26
        go_wp2_with (first | (go_at_call 46; refine (impl_TreeOk.calls k A0 c0 l0 true _ HE1.out HR1.out.1 HR1.out.2 HT.out).mono ?_; rintro e w8 ⟨rfl, hb8⟩) | (go_at_call 59; refine (impl_cloneTree.calls A0 c0 l0 y _ (Kd.C_below HR1.out.1 hb8) HR1.out.2 HY.out.1).mono ?_; rintro e w9 ⟨vy, rfl, hO9, hb9⟩; (obtain ⟨Ay, cy, rfl, hcy, hCy⟩ := Kd.R_reads hO9); have hqx := pw_cell_below hb9 (pw_cell_below hb8 HQ.out.1)) | (go_at_call 54; refine (impl_entryAt.calls Ay cy y a1 i _ hCy hcy HY.out.2).mono ?_; rintro e w10 ⟨rfl, hb10⟩) | (go_at_call 60; refine (impl_CutEntry.deleteFunc _ y a1 w.heap.size (w.alloc (.cells #[.string a1] 9)) _ hp (below_step (below_step hb8 hb9) hb10) HQ.out.1 HQ.out.2 (Kd.R_lower (Kd.R_below hO9 hb10) hb8.size)).mono ?_; rintro e w11 ⟨v11, rfl, hO11, hb11⟩))
        exact bodyPost_ret (v := .tuple #[v11, .bool true]) (by simp [results, Tryd.results26, go_sem]) rfl ⟨_, rfl, Kd.R_lower hO11 HB1.out.size, HB1.out.trans (hb11.mono HB1.out.size)⟩
      · rw [if_neg hp] at h
        cases h
end Go.Proofs.YtgghefjkkidaoaaDoor.P
end

section
namespace Go.Proofs.YtgghefjkkidaoaaDoor.P
open Go.RowKit Go.Proofs.YtgghefjkkidaoaaDoorW.PrintWords Go.Proofs.YtgghefjkkidaoaaDoorW.PrintLast Go.Proofs.YtgghefjkkidaoaaDoorW.PrintMore Go.Proofs.YtgghefjkkidaoaaDoorM
attribute [local go_sem] max2_int min2_int max_two min_two max_three min_three max_four min_four   -- for this text's walks alone
set_option linter.unusedVariables false
set_option linter.unusedSimpArgs false
mutual
def laws_FnExactCutEntry.j0 : Nat → List (S44) → ByteArray → List (S47) → Bool → List (S47) → List (S47) → Bool → Bool → Option (Bool)
  | 0, _, _, _, _, _, _, _, _ => none
  | k + 1, x0, x1, x6, x7, x8, x9, x10, x47 => if x47 = true then (some false) else ((laws_toEntryS.f k x0).bind fun t462 => ((laws_eqEntryS.f k x8 t462).bind fun t465 => (if t465 = true then ((laws_markEntryS.f k x8 1).bind fun bt466 => (if bt466.1 < 0 then (laws_FnExactCutEntry.j1 k x0 x1 x6 x7 x9 true) else ((laws_eqEntryS.f k x9 x6).bind fun t468 => (if t468 = true then (laws_FnExactCutEntry.j1 k x0 x1 x6 x7 x9 (x10 != x7)) else (laws_FnExactCutEntry.j1 k x0 x1 x6 x7 x9 true))))) else (some false))))
def laws_FnExactCutEntry.j1 : Nat → List (S44) → ByteArray → List (S47) → Bool → List (S47) → Bool → Option (Bool)
  | 0, _, _, _, _, _, _ => none
  | k + 1, x0, x1, x6, x7, x9, x68 => if x68 = true then (some false) else ((laws_markEntryS.f k x9 1).bind fun bt469 => ((laws_heldEntryS.f k bt469.2 1).bind fun t471 => (if t471 < 0 then (some false) else (if t471 = bt469.1 then ((laws_toEntryS.f k x0).bind fun t472 => ((impl_CutEntry.f k t472 x1).bind fun bt475 => ((laws_eqEntryS.f k bt475.1 x6).bind fun t479 => (if t479 = true then (laws_FnExactCutEntry.j2 k bt469.2 bt469.1 (bt475.2 != x7)) else (laws_FnExactCutEntry.j2 k bt469.2 bt469.1 true))))) else (some false)))))
def laws_FnExactCutEntry.j2 : Nat → List (S47) → Int → Bool → Option (Bool)
  | 0, _, _, _ => none
  | k + 1, x9, x12, x95 => if x95 = true then (some false) else ((laws_heldEntryS.f k x9 1).bind fun t480 => (if t480 < 0 then (some false) else (if t480 = x12 then (some true) else (some false))))
end
def laws_FnExactCutEntry.f (k : Nat) (l0 : List (S44)) (a1 : ByteArray) : Option (Bool) := if (a1.size : Int) > 1048576 then (some true) else ((laws_szEntryS.f k l0 1048576).bind fun t446 => (if t446 < 0 then (some true) else ((laws_toEntryS.f k l0).bind fun t447 => ((spec_CutEntry.f k t447 a1).bind fun bt450 => ((laws_toEntryS.f k l0).bind fun t454 => ((impl_CutEntry.f k t454 a1).bind fun bt457 => ((laws_eqEntryS.f k bt457.1 bt450.1).bind fun t461 => (if t461 = true then (laws_FnExactCutEntry.j0 k l0 a1 bt450.1 bt450.2 t454 bt457.1 bt457.2 (bt457.2 != bt450.2)) else (laws_FnExactCutEntry.j0 k l0 a1 bt450.1 bt450.2 t454 bt457.1 bt457.2 true)))))))))
set_option maxHeartbeats 8000000 in
set_option maxRecDepth 100000 in
theorem laws_FnExactCutEntry.calls (k : Nat) (A0 : Option Addr) (c0 : Nat) (l0 : List (S44)) (a1 : ByteArray) (r : Bool) (w : World) (hE : EnvW w) (hr0 : Kd.C k44 w A0 l0.length l0) (hc0 : l0.length ≤ c0) (h : laws_FnExactCutEntry.f k l0 a1 = some r) :
    Calls Tryd.prog 6 #[.slice A0 l0.length c0, .string a1] w fun e w' => e = .returned (.bool r) ∧ Below w.heap.size w w' := by
  have HE := Aside0.mk hE
  clear hE
  have HR0 := Aside0.mk hr0
  have HC0 := Aside0.mk hc0
  clear hr0 hc0
  have HB := Aside0.mk (Below.refl w.heap.size w)
  have H : (if (a1.size : Int) > 1048576 then (some true) else ((laws_szEntryS.f k l0 1048576).bind fun t446 => (if t446 < 0 then (some true) else ((laws_toEntryS.f k l0).bind fun t447 => ((spec_CutEntry.f k t447 a1).bind fun bt450 => ((laws_toEntryS.f k l0).bind fun t454 => ((impl_CutEntry.f k t454 a1).bind fun bt457 => ((laws_eqEntryS.f k bt457.1 bt450.1).bind fun t461 => (if t461 = true then (laws_FnExactCutEntry.j0 k l0 a1 bt450.1 bt450.2 t454 bt457.1 bt457.2 (bt457.2 != bt450.2)) else (laws_FnExactCutEntry.j0 k l0 a1 bt450.1 bt450.2 t454 bt457.1 bt457.2 true)))))))))) = some r := h
  clear h
  by_cases c3 : (a1.size : Int) > 1048576
  · rw [if_pos c3] at H
    have c3b0 : decide (1048576 < (a1.size : Int)) = true := decide_eq_true c3
    have c3b1 : decide (1048576 < a1.size) = true := decide_eq_true (by omega)
    clear c3
    obtain rfl := Option.some.inj H
    go_enter Tryd.func6, Tryd.ntmps6
    go_wp2
    go_ret
    exact ⟨by first | rfl | (simp [errW_none, errW_some] <;> rfl) | (simp [*, errW_none, errW_some] <;> rfl), by repeat (first | (with_reducible first | exact HB.out | apply below_alloc | apply pw_below_drewN | apply below_drew1) | exact HB.out)⟩
  · rw [if_neg c3] at H
    have c3b0 : decide (1048576 < (a1.size : Int)) = false := decide_eq_false c3
    have c3b1 : decide (1048576 < a1.size) = false := decide_eq_false (by omega)
    clear c3
    replace H := Option.bind_eq_some_iff.mp H
    obtain ⟨t446, A40, H⟩ := H
    replace H : (if t446 < 0 then (some true) else ((laws_toEntryS.f k l0).bind fun t447 => ((spec_CutEntry.f k t447 a1).bind fun bt450 => ((laws_toEntryS.f k l0).bind fun t454 => ((impl_CutEntry.f k t454 a1).bind fun bt457 => ((laws_eqEntryS.f k bt457.1 bt450.1).bind fun t461 => (if t461 = true then (laws_FnExactCutEntry.j0 k l0 a1 bt450.1 bt450.2 t454 bt457.1 bt457.2 (bt457.2 != bt450.2)) else (laws_FnExactCutEntry.j0 k l0 a1 bt450.1 bt450.2 t454 bt457.1 bt457.2 true)))))))) = some r := H
    have A4 := Aside0.mk A40
    clear A40
    by_cases c5 : t446 < 0
    · rw [if_pos c5] at H
      have c5b0 : decide (t446 < 0) = true := decide_eq_true c5
      clear c5
      obtain rfl := Option.some.inj H
      go_enter Tryd.func6, Tryd.ntmps6
      go_wp2_with (first | ((with_reducible refine gate_callee (f := 11) rfl ?_); refine goesL_ (some 21) rfl rfl Tryd.func11 (by kernel_rfl) rfl #[.slice A0 l0.length c0, .int .i64 1048576] rfl (by (try simp only [List.map_toArray, List.map_cons, List.map_nil]); first | done | rfl | (simp only [List.length_drop, List.length_take]; rfl)) ?_; (with_reducible refine (laws_szEntryS.calls k _ _ l0 1048576 t446 _ ?side1 ?side2 A4.out).mono ?_); (case side1 => repeat (first | exact HR0.out | (with_reducible refine Kd.C_alloc ?_ _) | (with_reducible refine Kd.C_drewN ?_ _) | (with_reducible refine Kd.C_drew ?_))); (case side2 => exact HC0.out); rintro e w6 ⟨rfl, hb⟩; refine ⟨_, rfl, ?_⟩; have n0_ := Aside0.mk (below_step (by repeat (first | (with_reducible first | exact HB.out | apply below_alloc | apply pw_below_drewN | apply below_drew1) | exact HB.out)) hb); clear HB; have HB := n0_; clear n0_; (try clear hb); (try clear hb2); (try clear hk); (try clear hi)))
      go_ret
      exact ⟨by first | rfl | (simp [errW_none, errW_some] <;> rfl) | (simp [*, errW_none, errW_some] <;> rfl), by repeat (first | (with_reducible first | exact HB.out | apply below_alloc | apply pw_below_drewN | apply below_drew1) | exact HB.out)⟩
    · rw [if_neg c5] at H
      have c5b0 : decide (t446 < 0) = false := decide_eq_false c5
      clear c5
      replace H := Option.bind_eq_some_iff.mp H
      obtain ⟨t447, A70, H⟩ := H
      replace H : ((spec_CutEntry.f k t447 a1).bind fun bt450 => ((laws_toEntryS.f k l0).bind fun t454 => ((impl_CutEntry.f k t454 a1).bind fun bt457 => ((laws_eqEntryS.f k bt457.1 bt450.1).bind fun t461 => (if t461 = true then (laws_FnExactCutEntry.j0 k l0 a1 bt450.1 bt450.2 t454 bt457.1 bt457.2 (bt457.2 != bt450.2)) else (laws_FnExactCutEntry.j0 k l0 a1 bt450.1 bt450.2 t454 bt457.1 bt457.2 true)))))) = some r := H
      have A7 := Aside0.mk A70
      clear A70
      replace H := Option.bind_eq_some_iff.mp H
      obtain ⟨⟨t450, t451⟩, A80, H⟩ := H
      replace H : ((laws_toEntryS.f k l0).bind fun t454 => ((impl_CutEntry.f k t454 a1).bind fun bt457 => ((laws_eqEntryS.f k bt457.1 t450).bind fun t461 => (if t461 = true then (laws_FnExactCutEntry.j0 k l0 a1 t450 t451 t454 bt457.1 bt457.2 (bt457.2 != t451)) else (laws_FnExactCutEntry.j0 k l0 a1 t450 t451 t454 bt457.1 bt457.2 true))))) = some r := H
      have A8 := Aside0.mk A80
      clear A80
      replace H := Option.bind_eq_some_iff.mp H
      obtain ⟨t454, A90, H⟩ := H
      replace H : ((impl_CutEntry.f k t454 a1).bind fun bt457 => ((laws_eqEntryS.f k bt457.1 t450).bind fun t461 => (if t461 = true then (laws_FnExactCutEntry.j0 k l0 a1 t450 t451 t454 bt457.1 bt457.2 (bt457.2 != t451)) else (laws_FnExactCutEntry.j0 k l0 a1 t450 t451 t454 bt457.1 bt457.2 true)))) = some r := H
      have A9 := Aside0.mk A90
      clear A90
      replace H := Option.bind_eq_some_iff.mp H
      obtain ⟨⟨t457, t458⟩, A100, H⟩ := H
      replace H : ((laws_eqEntryS.f k t457 t450).bind fun t461 => (if t461 = true then (laws_FnExactCutEntry.j0 k l0 a1 t450 t451 t454 t457 t458 (t458 != t451)) else (laws_FnExactCutEntry.j0 k l0 a1 t450 t451 t454 t457 t458 true))) = some r := H
      have A10 := Aside0.mk A100
      clear A100
      have HC11 := Aside0.mk H
      clear H
      go_enter Tryd.func6, Tryd.ntmps6
      go_upto_region 10 with (first | ((with_reducible refine gate_callee (f := 11) rfl ?_); refine goesL_ (some 21) rfl rfl Tryd.func11 (by kernel_rfl) rfl #[.slice A0 l0.length c0, .int .i64 1048576] rfl (by (try simp only [List.map_toArray, List.map_cons, List.map_nil]); first | done | rfl | (simp only [List.length_drop, List.length_take]; rfl)) ?_; (with_reducible refine (laws_szEntryS.calls k _ _ l0 1048576 t446 _ ?side1 ?side2 A4.out).mono ?_); (case side1 => repeat (first | exact HR0.out | (with_reducible refine Kd.C_alloc ?_ _) | (with_reducible refine Kd.C_drewN ?_ _) | (with_reducible refine Kd.C_drew ?_))); (case side2 => exact HC0.out); rintro e w12 ⟨rfl, hb⟩; refine ⟨_, rfl, ?_⟩; have n0_ := Aside0.mk (below_step (by repeat (first | (with_reducible first | exact HB.out | apply below_alloc | apply pw_below_drewN | apply below_drew1) | exact HB.out)) hb); clear HB; have HB := n0_; clear n0_; (try clear hb); (try clear hb2); (try clear hk); (try clear hi)) | ((with_reducible refine gate_callee (f := 13) rfl ?_); refine goesL_ (some 26) rfl rfl Tryd.func13 (by kernel_rfl) rfl #[.slice A0 l0.length c0] rfl (by (try simp only [List.map_toArray, List.map_cons, List.map_nil]); first | done | rfl | (simp only [List.length_drop, List.length_take]; rfl)) ?_; (with_reducible refine (laws_toEntryS.calls k _ _ l0 t447 _ ?side1 ?side2 A7.out).mono ?_); (case side1 => repeat (first | exact (Kd.C_below HR0.out HB.out) | (with_reducible refine Kd.C_alloc ?_ _) | (with_reducible refine Kd.C_drewN ?_ _) | (with_reducible refine Kd.C_drew ?_))); (case side2 => exact HC0.out); rintro e w13 ⟨v448, rfl, ho0, hb⟩; refine ⟨_, rfl, ?_⟩; have n0_ := Aside0.mk (Kd.R_lower ho0 (below_size (by repeat (first | (with_reducible first | exact HB.out | apply below_alloc | apply pw_below_drewN | apply below_drew1) | exact HB.out)))); have n1_ := Aside0.mk (below_step (by repeat (first | (with_reducible first | exact HB.out | apply below_alloc | apply pw_below_drewN | apply below_drew1) | exact HB.out)) hb); clear HB; have HO449 := n0_; have HB := n1_; clear n0_ n1_; (try clear hb); (try clear hb2); (try clear hk); (try clear hi); (try clear ho0); obtain ⟨Ao14, co14, eo14⟩ := Kd.R_slice HO449.out; subst eo14) | ((with_reducible refine gate_callee (f := 25) rfl ?_); refine goesL_ (some 28) rfl rfl Tryd.func25 (by kernel_rfl) rfl #[.slice Ao14 t447.length co14, .string a1] rfl (by (try simp only [List.map_toArray, List.map_cons, List.map_nil]); first | done | rfl | (simp only [List.length_drop, List.length_take]; rfl)) ?_; (with_reducible refine (spec_CutEntry.calls k _ _ t447 a1 t450 t451 _ ?side1 ?side2 A8.out).mono ?_); (case side1 => repeat (first | exact (Kd.R_reads' HO449.out).2.2 | (with_reducible refine Kd.C_alloc ?_ _) | (with_reducible refine Kd.C_drewN ?_ _) | (with_reducible refine Kd.C_drew ?_))); (case side2 => exact (Kd.R_reads' HO449.out).2.1); rintro e w15 ⟨v452, rfl, ho0, hb⟩; refine ⟨_, rfl, ?_⟩; have n0_ := Aside0.mk (Kd.R_elder' (by (with_reducible repeat (first | apply Kd.R_alloc | apply Kd.R_drewN | apply Kd.R_drew)); exact HO449.out) (Kd.R_base ho0) hb); have n1_ := Aside0.mk (Kd.R_lower (Kd.R_new' ho0 (Kd.R_lt (by (with_reducible repeat (first | apply Kd.R_alloc | apply Kd.R_drewN | apply Kd.R_drew)); exact HO449.out))) (below_size (by repeat (first | (with_reducible first | exact HB.out | apply below_alloc | apply pw_below_drewN | apply below_drew1) | exact HB.out)))); have n2_ := Aside0.mk (below_step (by repeat (first | (with_reducible first | exact HB.out | apply below_alloc | apply pw_below_drewN | apply below_drew1) | exact HB.out)) hb); clear HO449; clear HB; have HO449 := n0_; have HO453 := n1_; have HB := n2_; clear n0_ n1_ n2_; (try clear hb); (try clear hb2); (try clear hk); (try clear hi); (try clear ho0)) | ((with_reducible refine gate_callee (f := 13) rfl ?_); refine goesL_ (some 32) rfl rfl Tryd.func13 (by kernel_rfl) rfl #[.slice A0 l0.length c0] rfl (by (try simp only [List.map_toArray, List.map_cons, List.map_nil]); first | done | rfl | (simp only [List.length_drop, List.length_take]; rfl)) ?_; (with_reducible refine (laws_toEntryS.calls k _ _ l0 t454 _ ?side1 ?side2 A9.out).mono ?_); (case side1 => repeat (first | exact (Kd.C_below HR0.out HB.out) | (with_reducible refine Kd.C_alloc ?_ _) | (with_reducible refine Kd.C_drewN ?_ _) | (with_reducible refine Kd.C_drew ?_))); (case side2 => exact HC0.out); rintro e w16 ⟨v455, rfl, ho0, hb⟩; refine ⟨_, rfl, ?_⟩; have n0_ := Aside0.mk (Kd.R_elder' (by (with_reducible repeat (first | apply Kd.R_alloc | apply Kd.R_drewN | apply Kd.R_drew)); exact HO449.out) (Kd.R_base ho0) hb); have n1_ := Aside0.mk (Kd.R_elder' (by (with_reducible repeat (first | apply Kd.R_alloc | apply Kd.R_drewN | apply Kd.R_drew)); exact HO453.out) (Kd.R_base ho0) hb); have n2_ := Aside0.mk (Kd.R_lower (Kd.R_new' (Kd.R_new' ho0 (Kd.R_lt (by (with_reducible repeat (first | apply Kd.R_alloc | apply Kd.R_drewN | apply Kd.R_drew)); exact HO449.out))) (Kd.R_lt (by (with_reducible repeat (first | apply Kd.R_alloc | apply Kd.R_drewN | apply Kd.R_drew)); exact HO453.out))) (below_size (by repeat (first | (with_reducible first | exact HB.out | apply below_alloc | apply pw_below_drewN | apply below_drew1) | exact HB.out)))); have n3_ := Aside0.mk (below_step (by repeat (first | (with_reducible first | exact HB.out | apply below_alloc | apply pw_below_drewN | apply below_drew1) | exact HB.out)) hb); clear HO449; clear HO453; clear HB; have HO449 := n0_; have HO453 := n1_; have HO456 := n2_; have HB := n3_; clear n0_ n1_ n2_ n3_; (try clear hb); (try clear hb2); (try clear hk); (try clear hi); (try clear ho0); obtain ⟨Ao17, co17, eo17⟩ := Kd.R_slice HO456.out; subst eo17) | ((with_reducible refine gate_callee (f := 26) rfl ?_); refine goesL_ (some 36) rfl rfl Tryd.func26 (by kernel_rfl) rfl #[.slice Ao17 t454.length co17, .string a1] rfl (by (try simp only [List.map_toArray, List.map_cons, List.map_nil]); first | done | rfl | (simp only [List.length_drop, List.length_take]; rfl)) ?_; (with_reducible refine (impl_CutEntry.calls k _ _ t454 a1 t457 t458 _ ?side1 ?side2 ?side3 A10.out).mono ?_); (case side1 => refine EnvW.below HE.out ?_; repeat (first | (with_reducible first | exact HB.out | apply below_alloc | apply pw_below_drewN | apply below_drew1) | exact HB.out)); (case side2 => repeat (first | exact (Kd.R_reads' HO456.out).2.2 | (with_reducible refine Kd.C_alloc ?_ _) | (with_reducible refine Kd.C_drewN ?_ _) | (with_reducible refine Kd.C_drew ?_))); (case side3 => exact (Kd.R_reads' HO456.out).2.1); rintro e w18 ⟨v459, rfl, ho0, hb⟩; refine ⟨_, rfl, ?_⟩; have n0_ := Aside0.mk (Kd.R_elder' (by (with_reducible repeat (first | apply Kd.R_alloc | apply Kd.R_drewN | apply Kd.R_drew)); exact HO449.out) (Kd.R_base ho0) hb); have n1_ := Aside0.mk (Kd.R_elder' (by (with_reducible repeat (first | apply Kd.R_alloc | apply Kd.R_drewN | apply Kd.R_drew)); exact HO453.out) (Kd.R_base ho0) hb); have n2_ := Aside0.mk (Kd.R_elder' (by (with_reducible repeat (first | apply Kd.R_alloc | apply Kd.R_drewN | apply Kd.R_drew)); exact HO456.out) (Kd.R_base ho0) hb); have n3_ := Aside0.mk (Kd.R_lower (Kd.R_new' (Kd.R_new' (Kd.R_new' ho0 (Kd.R_lt (by (with_reducible repeat (first | apply Kd.R_alloc | apply Kd.R_drewN | apply Kd.R_drew)); exact HO449.out))) (Kd.R_lt (by (with_reducible repeat (first | apply Kd.R_alloc | apply Kd.R_drewN | apply Kd.R_drew)); exact HO453.out))) (Kd.R_lt (by (with_reducible repeat (first | apply Kd.R_alloc | apply Kd.R_drewN | apply Kd.R_drew)); exact HO456.out))) (below_size (by repeat (first | (with_reducible first | exact HB.out | apply below_alloc | apply pw_below_drewN | apply below_drew1) | exact HB.out)))); have n4_ := Aside0.mk (below_step (by repeat (first | (with_reducible first | exact HB.out | apply below_alloc | apply pw_below_drewN | apply below_drew1) | exact HB.out)) hb); clear HO449; clear HO453; clear HO456; clear HB; have HO449 := n0_; have HO453 := n1_; have HO456 := n2_; have HO460 := n3_; have HB := n4_; clear n0_ n1_ n2_ n3_ n4_; (try clear hb); (try clear hb2); (try clear hk); (try clear hi); (try clear ho0)))
      (try simp only [Act.put, List.setIfInBounds_toArray, List.set_cons_zero, List.set_cons_succ])
      go_cut [47] (fun v47 wc => ∃ (kq : Nat) (x47_10 : Bool), v47 = .bool x47_10 ∧ Aside0 (laws_FnExactCutEntry.j0 kq l0 a1 t450 t451 t454 t457 t458 x47_10 = some r) ∧ Aside0 (kq ≤ k) ∧ Aside0 (Kd.R k47 47 wc w.heap.size (fun k_ => some k_ ≠ ((.slice Ao17 t454.length co17) : Value).ownBlock ∧ some k_ ≠ (v459 : Value).ownBlock) v452 t450) ∧ Aside0 (Kd.R k47 47 wc w.heap.size (fun k_ => some k_ ≠ (v452 : Value).ownBlock ∧ some k_ ≠ (v459 : Value).ownBlock) (.slice Ao17 t454.length co17) t454) ∧ Aside0 (Kd.R k47 47 wc w.heap.size (fun k_ => some k_ ≠ (v452 : Value).ownBlock ∧ some k_ ≠ ((.slice Ao17 t454.length co17) : Value).ownBlock) v459 t457) ∧ Aside0 (Below w.heap.size w wc))
      case first =>
        have H := HC11.out
        clear HC11
        replace H := Option.bind_eq_some_iff.mp H
        obtain ⟨t461, A190, H⟩ := H
        replace H : (if t461 = true then (laws_FnExactCutEntry.j0 k l0 a1 t450 t451 t454 t457 t458 (t458 != t451)) else (laws_FnExactCutEntry.j0 k l0 a1 t450 t451 t454 t457 t458 true)) = some r := H
        have A19 := Aside0.mk A190
        clear A190
        by_cases c20 : t461 = true
        · subst c20
          have H1 : (laws_FnExactCutEntry.j0 k l0 a1 t450 t451 t454 t457 t458 (t458 != t451)) = some r := by rw [if_pos rfl] at H; exact H
          clear H
          have H := H1
          clear H1
          have H' := Aside0.mk H
          clear H
          obtain ⟨Ao21, co21, eo21⟩ := Kd.R_slice HO460.out
          subst eo21
          obtain ⟨Ao22, co22, eo22⟩ := Kd.R_slice HO453.out
          subst eo22
          go_wp2_with (first | ((with_reducible refine gate_callee (f := 15) rfl ?_); refine goesL_ (some 41) rfl rfl Tryd.func15 (by kernel_rfl) rfl #[.slice Ao21 t457.length co21, .slice Ao22 t450.length co22] rfl (by (try simp only [List.map_toArray, List.map_cons, List.map_nil]); first | done | rfl | (simp only [List.length_drop, List.length_take]; rfl)) ?_; (with_reducible refine (laws_eqEntryS.calls k _ _ t457 _ _ t450 true _ ?side1 ?side2 ?side3 ?side4 A19.out).mono ?_); (case side1 => repeat (first | exact (Kd.R_reads' HO460.out).2.2 | (with_reducible refine Kd.C_alloc ?_ _) | (with_reducible refine Kd.C_drewN ?_ _) | (with_reducible refine Kd.C_drew ?_))); (case side2 => exact (Kd.R_reads' HO460.out).2.1); (case side3 => repeat (first | exact (Kd.R_reads' HO453.out).2.2 | (with_reducible refine Kd.C_alloc ?_ _) | (with_reducible refine Kd.C_drewN ?_ _) | (with_reducible refine Kd.C_drew ?_))); (case side4 => exact (Kd.R_reads' HO453.out).2.1); rintro e w23 ⟨rfl, hb⟩; refine ⟨_, rfl, ?_⟩; have n0_ := Aside0.mk (Kd.R_below (by (with_reducible repeat (first | apply Kd.R_alloc | apply Kd.R_drewN | apply Kd.R_drew)); exact HO449.out) hb); have n1_ := Aside0.mk (Kd.R_below (by (with_reducible repeat (first | apply Kd.R_alloc | apply Kd.R_drewN | apply Kd.R_drew)); exact HO453.out) hb); have n2_ := Aside0.mk (Kd.R_below (by (with_reducible repeat (first | apply Kd.R_alloc | apply Kd.R_drewN | apply Kd.R_drew)); exact HO456.out) hb); have n3_ := Aside0.mk (Kd.R_below (by (with_reducible repeat (first | apply Kd.R_alloc | apply Kd.R_drewN | apply Kd.R_drew)); exact HO460.out) hb); have n4_ := Aside0.mk (below_step (by repeat (first | (with_reducible first | exact HB.out | apply below_alloc | apply pw_below_drewN | apply below_drew1) | exact HB.out)) hb); clear HO449; clear HO453; clear HO456; clear HO460; clear HB; have HO449 := n0_; have HO453 := n1_; have HO456 := n2_; have HO460 := n3_; have HB := n4_; clear n0_ n1_ n2_ n3_ n4_; (try clear hb); (try clear hb2); (try clear hk); (try clear hi)))
          go_meet
          case rel => exact ⟨_, ((t458 != t451)), (by first | rfl | (simp; done) | (simp [*]; done)), H', ⟨by first | omega | exact Nat.le_refl _⟩, ⟨by (with_reducible repeat (first | apply Kd.R_alloc | apply Kd.R_drewN | apply Kd.R_drew)); exact Kd.R_mono HO453.out (fun _ hk => ⟨hk.1.2, hk.2⟩)⟩, ⟨by (with_reducible repeat (first | apply Kd.R_alloc | apply Kd.R_drewN | apply Kd.R_drew)); exact Kd.R_mono HO456.out (fun _ hk => ⟨hk.1.2, hk.2⟩)⟩, ⟨by (with_reducible repeat (first | apply Kd.R_alloc | apply Kd.R_drewN | apply Kd.R_drew)); exact Kd.R_mono HO460.out (fun _ hk => ⟨hk.1.2, hk.2⟩)⟩, ⟨by repeat (first | (with_reducible first | exact HB.out | apply below_alloc | apply pw_below_drewN | apply below_drew1) | exact HB.out)⟩⟩
        · replace c20 := Bool.eq_false_iff.mpr c20
          subst c20
          have H1 : (laws_FnExactCutEntry.j0 k l0 a1 t450 t451 t454 t457 t458 true) = some r := by rw [if_neg (show ¬ (false = true) by decide)] at H; exact H
          clear H
          have H := H1
          clear H1
          have H' := Aside0.mk H
          clear H
          obtain ⟨Ao24, co24, eo24⟩ := Kd.R_slice HO460.out
          subst eo24
          obtain ⟨Ao25, co25, eo25⟩ := Kd.R_slice HO453.out
          subst eo25
          go_wp2_with (first | ((with_reducible refine gate_callee (f := 15) rfl ?_); refine goesL_ (some 41) rfl rfl Tryd.func15 (by kernel_rfl) rfl #[.slice Ao24 t457.length co24, .slice Ao25 t450.length co25] rfl (by (try simp only [List.map_toArray, List.map_cons, List.map_nil]); first | done | rfl | (simp only [List.length_drop, List.length_take]; rfl)) ?_; (with_reducible refine (laws_eqEntryS.calls k _ _ t457 _ _ t450 false _ ?side1 ?side2 ?side3 ?side4 A19.out).mono ?_); (case side1 => repeat (first | exact (Kd.R_reads' HO460.out).2.2 | (with_reducible refine Kd.C_alloc ?_ _) | (with_reducible refine Kd.C_drewN ?_ _) | (with_reducible refine Kd.C_drew ?_))); (case side2 => exact (Kd.R_reads' HO460.out).2.1); (case side3 => repeat (first | exact (Kd.R_reads' HO453.out).2.2 | (with_reducible refine Kd.C_alloc ?_ _) | (with_reducible refine Kd.C_drewN ?_ _) | (with_reducible refine Kd.C_drew ?_))); (case side4 => exact (Kd.R_reads' HO453.out).2.1); rintro e w26 ⟨rfl, hb⟩; refine ⟨_, rfl, ?_⟩; have n0_ := Aside0.mk (Kd.R_below (by (with_reducible repeat (first | apply Kd.R_alloc | apply Kd.R_drewN | apply Kd.R_drew)); exact HO449.out) hb); have n1_ := Aside0.mk (Kd.R_below (by (with_reducible repeat (first | apply Kd.R_alloc | apply Kd.R_drewN | apply Kd.R_drew)); exact HO453.out) hb); have n2_ := Aside0.mk (Kd.R_below (by (with_reducible repeat (first | apply Kd.R_alloc | apply Kd.R_drewN | apply Kd.R_drew)); exact HO456.out) hb); have n3_ := Aside0.mk (Kd.R_below (by (with_reducible repeat (first | apply Kd.R_alloc | apply Kd.R_drewN | apply Kd.R_drew)); exact HO460.out) hb); have n4_ := Aside0.mk (below_step (by repeat (first | (with_reducible first | exact HB.out | apply below_alloc | apply pw_below_drewN | apply below_drew1) | exact HB.out)) hb); clear HO449; clear HO453; clear HO456; clear HO460; clear HB; have HO449 := n0_; have HO453 := n1_; have HO456 := n2_; have HO460 := n3_; have HB := n4_; clear n0_ n1_ n2_ n3_ n4_; (try clear hb); (try clear hb2); (try clear hk); (try clear hi)))
          go_meet
          case rel => exact ⟨_, (true), (by first | rfl | (simp; done) | (simp [*]; done)), H', ⟨by first | omega | exact Nat.le_refl _⟩, ⟨by (with_reducible repeat (first | apply Kd.R_alloc | apply Kd.R_drewN | apply Kd.R_drew)); exact Kd.R_mono HO453.out (fun _ hk => ⟨hk.1.2, hk.2⟩)⟩, ⟨by (with_reducible repeat (first | apply Kd.R_alloc | apply Kd.R_drewN | apply Kd.R_drew)); exact Kd.R_mono HO456.out (fun _ hk => ⟨hk.1.2, hk.2⟩)⟩, ⟨by (with_reducible repeat (first | apply Kd.R_alloc | apply Kd.R_drewN | apply Kd.R_drew)); exact Kd.R_mono HO460.out (fun _ hk => ⟨hk.1.2, hk.2⟩)⟩, ⟨by repeat (first | (with_reducible first | exact HB.out | apply below_alloc | apply pw_below_drewN | apply below_drew1) | exact HB.out)⟩⟩
      case rest =>
        clear HC11
        try clear c1
        try clear c2
        try clear p2
        try clear c3
        try clear c3b0
        try clear c3b1
        try clear c5
        try clear c5b0
        try clear c6
        try clear c11
        try clear c13
        try clear c15
        try clear c20
        try clear c25
        try clear c26
        obtain ⟨kq, x47_10, rfl, HA, HJ10, HO_6, HO_8, HO_9, HB⟩ := hcut
        cases kq with
        | zero => exact absurd HA.out (by simp [laws_FnExactCutEntry.j0])
        | succ kj10 =>
          have H := HA.out
          clear HA
          simp only [laws_FnExactCutEntry.j0] at H
          by_cases c27 : x47_10 = true
          · subst c27
            have H1 : (some false) = some r := by rw [if_pos rfl] at H; exact H
            clear H
            have H := H1
            clear H1
            obtain rfl := Option.some.inj H
            go_wp2
            go_ret
            exact ⟨by first | rfl | (simp [errW_none, errW_some] <;> rfl) | (simp [*, errW_none, errW_some] <;> rfl), by repeat (first | (with_reducible first | exact HB.out | apply below_alloc | apply pw_below_drewN | apply below_drew1) | exact HB.out)⟩
          · replace c27 := Bool.eq_false_iff.mpr c27
            subst c27
            have H1 : ((laws_toEntryS.f kj10 l0).bind fun t462 => ((laws_eqEntryS.f kj10 t454 t462).bind fun t465 => (if t465 = true then ((laws_markEntryS.f kj10 t454 1).bind fun bt466 => (if bt466.1 < 0 then (laws_FnExactCutEntry.j1 kj10 l0 a1 t450 t451 t457 true) else ((laws_eqEntryS.f kj10 t457 t450).bind fun t468 => (if t468 = true then (laws_FnExactCutEntry.j1 kj10 l0 a1 t450 t451 t457 (t458 != t451)) else (laws_FnExactCutEntry.j1 kj10 l0 a1 t450 t451 t457 true))))) else (some false)))) = some r := by rw [if_neg (show ¬ (false = true) by decide)] at H; exact H
            clear H
            have H := H1
            clear H1
            replace H := Option.bind_eq_some_iff.mp H
            obtain ⟨t462, A280, H⟩ := H
            replace H : ((laws_eqEntryS.f kj10 t454 t462).bind fun t465 => (if t465 = true then ((laws_markEntryS.f kj10 t454 1).bind fun bt466 => (if bt466.1 < 0 then (laws_FnExactCutEntry.j1 kj10 l0 a1 t450 t451 t457 true) else ((laws_eqEntryS.f kj10 t457 t450).bind fun t468 => (if t468 = true then (laws_FnExactCutEntry.j1 kj10 l0 a1 t450 t451 t457 (t458 != t451)) else (laws_FnExactCutEntry.j1 kj10 l0 a1 t450 t451 t457 true))))) else (some false))) = some r := H
            have A28 := Aside0.mk A280
            clear A280
            replace H := Option.bind_eq_some_iff.mp H
            obtain ⟨t465, A290, H⟩ := H
            replace H : (if t465 = true then ((laws_markEntryS.f kj10 t454 1).bind fun bt466 => (if bt466.1 < 0 then (laws_FnExactCutEntry.j1 kj10 l0 a1 t450 t451 t457 true) else ((laws_eqEntryS.f kj10 t457 t450).bind fun t468 => (if t468 = true then (laws_FnExactCutEntry.j1 kj10 l0 a1 t450 t451 t457 (t458 != t451)) else (laws_FnExactCutEntry.j1 kj10 l0 a1 t450 t451 t457 true))))) else (some false)) = some r := H
            have A29 := Aside0.mk A290
            clear A290
            by_cases c30 : t465 = true
            · subst c30
              have H1 : ((laws_markEntryS.f kj10 t454 1).bind fun bt466 => (if bt466.1 < 0 then (laws_FnExactCutEntry.j1 kj10 l0 a1 t450 t451 t457 true) else ((laws_eqEntryS.f kj10 t457 t450).bind fun t468 => (if t468 = true then (laws_FnExactCutEntry.j1 kj10 l0 a1 t450 t451 t457 (t458 != t451)) else (laws_FnExactCutEntry.j1 kj10 l0 a1 t450 t451 t457 true))))) = some r := by rw [if_pos rfl] at H; exact H
              clear H
              have H := H1
              clear H1
              replace H := Option.bind_eq_some_iff.mp H
              obtain ⟨⟨t466, t467⟩, A310, H⟩ := H
              replace H : (if t466 < 0 then (laws_FnExactCutEntry.j1 kj10 l0 a1 t450 t451 t457 true) else ((laws_eqEntryS.f kj10 t457 t450).bind fun t468 => (if t468 = true then (laws_FnExactCutEntry.j1 kj10 l0 a1 t450 t451 t457 (t458 != t451)) else (laws_FnExactCutEntry.j1 kj10 l0 a1 t450 t451 t457 true)))) = some r := H
              have A31 := Aside0.mk A310
              clear A310
              have HC32 := Aside0.mk H
              clear H
              go_upto_region 16 with (first | ((with_reducible refine gate_callee (f := 13) rfl ?_); refine goesL_ (some 50) rfl rfl Tryd.func13 (by kernel_rfl) rfl #[.slice A0 l0.length c0] rfl (by (try simp only [List.map_toArray, List.map_cons, List.map_nil]); first | done | rfl | (simp only [List.length_drop, List.length_take]; rfl)) ?_; (with_reducible refine (laws_toEntryS.calls kj10 _ _ l0 t462 _ ?side1 ?side2 A28.out).mono ?_); (case side1 => repeat (first | exact (Kd.C_below HR0.out HB.out) | (with_reducible refine Kd.C_alloc ?_ _) | (with_reducible refine Kd.C_drewN ?_ _) | (with_reducible refine Kd.C_drew ?_))); (case side2 => exact HC0.out); rintro e w33 ⟨v463, rfl, ho0, hb⟩; refine ⟨_, rfl, ?_⟩; have n0_ := Aside0.mk (Kd.R_elder' (by (with_reducible repeat (first | apply Kd.R_alloc | apply Kd.R_drewN | apply Kd.R_drew)); exact HO_6.out) (Kd.R_base ho0) hb); have n1_ := Aside0.mk (Kd.R_elder' (by (with_reducible repeat (first | apply Kd.R_alloc | apply Kd.R_drewN | apply Kd.R_drew)); exact HO_8.out) (Kd.R_base ho0) hb); have n2_ := Aside0.mk (Kd.R_elder' (by (with_reducible repeat (first | apply Kd.R_alloc | apply Kd.R_drewN | apply Kd.R_drew)); exact HO_9.out) (Kd.R_base ho0) hb); have n3_ := Aside0.mk (Kd.R_lower (Kd.R_new' (Kd.R_new' (Kd.R_new' ho0 (Kd.R_lt (by (with_reducible repeat (first | apply Kd.R_alloc | apply Kd.R_drewN | apply Kd.R_drew)); exact HO_6.out))) (Kd.R_lt (by (with_reducible repeat (first | apply Kd.R_alloc | apply Kd.R_drewN | apply Kd.R_drew)); exact HO_8.out))) (Kd.R_lt (by (with_reducible repeat (first | apply Kd.R_alloc | apply Kd.R_drewN | apply Kd.R_drew)); exact HO_9.out))) (below_size (by repeat (first | (with_reducible first | exact HB.out | apply below_alloc | apply pw_below_drewN | apply below_drew1) | exact HB.out)))); have n4_ := Aside0.mk (below_step (by repeat (first | (with_reducible first | exact HB.out | apply below_alloc | apply pw_below_drewN | apply below_drew1) | exact HB.out)) hb); clear HO_6; clear HO_8; clear HO_9; clear HB; have HO_6 := n0_; have HO_8 := n1_; have HO_9 := n2_; have HO464 := n3_; have HB := n4_; clear n0_ n1_ n2_ n3_ n4_; (try clear hb); (try clear hb2); (try clear hk); (try clear hi); (try clear ho0); obtain ⟨Ao34, co34, eo34⟩ := Kd.R_slice HO464.out; subst eo34) | ((with_reducible refine gate_callee (f := 15) rfl ?_); refine goesL_ (some 51) rfl rfl Tryd.func15 (by kernel_rfl) rfl #[.slice Ao17 t454.length co17, .slice Ao34 t462.length co34] rfl (by (try simp only [List.map_toArray, List.map_cons, List.map_nil]); first | done | rfl | (simp only [List.length_drop, List.length_take]; rfl)) ?_; (with_reducible refine (laws_eqEntryS.calls kj10 _ _ t454 _ _ t462 true _ ?side1 ?side2 ?side3 ?side4 A29.out).mono ?_); (case side1 => repeat (first | exact (Kd.R_reads' HO_8.out).2.2 | (with_reducible refine Kd.C_alloc ?_ _) | (with_reducible refine Kd.C_drewN ?_ _) | (with_reducible refine Kd.C_drew ?_))); (case side2 => exact (Kd.R_reads' HO_8.out).2.1); (case side3 => repeat (first | exact (Kd.R_reads' HO464.out).2.2 | (with_reducible refine Kd.C_alloc ?_ _) | (with_reducible refine Kd.C_drewN ?_ _) | (with_reducible refine Kd.C_drew ?_))); (case side4 => exact (Kd.R_reads' HO464.out).2.1); rintro e w35 ⟨rfl, hb⟩; refine ⟨_, rfl, ?_⟩; have n0_ := Aside0.mk (Kd.R_below (by (with_reducible repeat (first | apply Kd.R_alloc | apply Kd.R_drewN | apply Kd.R_drew)); exact HO_6.out) hb); have n1_ := Aside0.mk (Kd.R_below (by (with_reducible repeat (first | apply Kd.R_alloc | apply Kd.R_drewN | apply Kd.R_drew)); exact HO_8.out) hb); have n2_ := Aside0.mk (Kd.R_below (by (with_reducible repeat (first | apply Kd.R_alloc | apply Kd.R_drewN | apply Kd.R_drew)); exact HO_9.out) hb); have n3_ := Aside0.mk (Kd.R_below (by (with_reducible repeat (first | apply Kd.R_alloc | apply Kd.R_drewN | apply Kd.R_drew)); exact HO464.out) hb); have n4_ := Aside0.mk (below_step (by repeat (first | (with_reducible first | exact HB.out | apply below_alloc | apply pw_below_drewN | apply below_drew1) | exact HB.out)) hb); clear HO_6; clear HO_8; clear HO_9; clear HO464; clear HB; have HO_6 := n0_; have HO_8 := n1_; have HO_9 := n2_; have HO464 := n3_; have HB := n4_; clear n0_ n1_ n2_ n3_ n4_; (try clear hb); (try clear hb2); (try clear hk); (try clear hi)) | ((with_reducible refine gate_callee (f := 19) rfl ?_); refine goesL_ (some 55) rfl rfl Tryd.func19 (by kernel_rfl) rfl #[.slice Ao17 t454.length co17, .int .i64 1] rfl (by (try simp only [List.map_toArray, List.map_cons, List.map_nil]); first | done | rfl | (simp only [List.length_drop, List.length_take]; rfl)) ?_; (with_reducible refine (laws_markEntryS.calls kj10 (fun k_ => some k_ = (.slice Ao17 t454.length co17 : Value).ownBlock) (.slice Ao17 t454.length co17) t454 1 t466 t467 w _ ?side1 ?side2 A31.out).mono ?_); (case side1 => repeat (first | (with_reducible first | exact HB.out | apply below_alloc | apply pw_below_drewN | apply below_drew1) | exact HB.out)); (case side2 => exact Kd.R_tight rfl HO_8.out); rintro e w36 ⟨rfl, hy0, hb, hkp⟩; refine ⟨_, rfl, ?_⟩; have n0_ := Aside0.mk (Kd.R_mono (ok' := fun k_ => some k_ ≠ (.slice Ao17 t454.length co17 : Value).ownBlock ∧ some k_ ≠ (v459 : Value).ownBlock ∧ some k_ ≠ (.slice Ao34 t462.length co34 : Value).ownBlock) (Kd.R_keptB (HO_6.out) hkp (fun k_ hk_ hs_ => (hk_.1.1) hs_)) (fun k_ hk_ => ⟨hk_.1.1.1, hk_.1.1.2, hk_.1.2⟩)); have n1_ := Aside0.mk (Kd.R_reok rfl hy0 (fun k_ e_ => HO_8.out.1 k_ e_)); have n2_ := Aside0.mk (Kd.R_mono (ok' := fun k_ => some k_ ≠ (v452 : Value).ownBlock ∧ some k_ ≠ (.slice Ao17 t454.length co17 : Value).ownBlock ∧ some k_ ≠ (.slice Ao34 t462.length co34 : Value).ownBlock) (Kd.R_keptB (HO_9.out) hkp (fun k_ hk_ hs_ => (hk_.1.2) hs_)) (fun k_ hk_ => ⟨hk_.1.1.1, hk_.1.1.2, hk_.1.2⟩)); have n3_ := Aside0.mk (Kd.R_mono (ok' := fun k_ => some k_ ≠ (v452 : Value).ownBlock ∧ some k_ ≠ (.slice Ao17 t454.length co17 : Value).ownBlock ∧ some k_ ≠ (v459 : Value).ownBlock) (Kd.R_keptB (HO464.out) hkp (fun k_ hk_ hs_ => (hk_.1.2) hs_)) (fun k_ hk_ => ⟨hk_.1.1.1.2, hk_.1.1.2, hk_.1.2⟩)); have n4_ := Aside0.mk (hb); clear HO_6; clear HO_8; clear HO_9; clear HO464; clear HB; have HO_6 := n0_; have HO_8 := n1_; have HO_9 := n2_; have HO464 := n3_; have HB := n4_; clear n0_ n1_ n2_ n3_ n4_; (try clear hb); (try clear hkp); (try clear hy0)))
              (try simp only [Act.put, List.setIfInBounds_toArray, List.set_cons_zero, List.set_cons_succ])
              go_cut [68] (fun v68 wc => ∃ (kq : Nat) (x68_31 : Bool), v68 = .bool x68_31 ∧ Aside0 (laws_FnExactCutEntry.j1 kq l0 a1 t450 t451 t457 x68_31 = some r) ∧ Aside0 (kq ≤ kj10) ∧ Aside0 (Kd.R k47 47 wc w.heap.size (fun k_ => some k_ ≠ (v459 : Value).ownBlock) v452 t450) ∧ Aside0 (Kd.R k47 47 wc w.heap.size (fun k_ => some k_ ≠ (v452 : Value).ownBlock) v459 t457) ∧ Aside0 (Below w.heap.size w wc))
              case first =>
                have H := HC32.out
                clear HC32
                by_cases c37 : t466 < 0
                · rw [if_pos c37] at H
                  have c37b0 : decide (t466 < 0) = true := decide_eq_true c37
                  clear c37
                  (first | rw [c37b0] | (simp only [i64_w, i32_w]; rw [c37b0]) | skip)
                  have H' := Aside0.mk H
                  clear H
                  go_wp2
                  go_meet
                  case rel => exact ⟨_, (true), (by first | rfl | (simp; done) | (simp [*]; done)), H', ⟨by have := HJ10.out; first | omega | exact Nat.le_refl _⟩, ⟨by (with_reducible repeat (first | apply Kd.R_alloc | apply Kd.R_drewN | apply Kd.R_drew)); exact Kd.R_mono HO_6.out (fun _ hk => hk.2.1)⟩, ⟨by (with_reducible repeat (first | apply Kd.R_alloc | apply Kd.R_drewN | apply Kd.R_drew)); exact Kd.R_mono HO_9.out (fun _ hk => hk.1)⟩, ⟨by repeat (first | (with_reducible first | exact HB.out | apply below_alloc | apply pw_below_drewN | apply below_drew1) | exact HB.out)⟩⟩
                · rw [if_neg c37] at H
                  have c37b0 : decide (t466 < 0) = false := decide_eq_false c37
                  clear c37
                  (first | rw [c37b0] | (simp only [i64_w, i32_w]; rw [c37b0]) | skip)
                  replace H := Option.bind_eq_some_iff.mp H
                  obtain ⟨t468, A380, H⟩ := H
                  replace H : (if t468 = true then (laws_FnExactCutEntry.j1 kj10 l0 a1 t450 t451 t457 (t458 != t451)) else (laws_FnExactCutEntry.j1 kj10 l0 a1 t450 t451 t457 true)) = some r := H
                  have A38 := Aside0.mk A380
                  clear A380
                  by_cases c39 : t468 = true
                  · subst c39
                    have H1 : (laws_FnExactCutEntry.j1 kj10 l0 a1 t450 t451 t457 (t458 != t451)) = some r := by rw [if_pos rfl] at H; exact H
                    clear H
                    have H := H1
                    clear H1
                    have H' := Aside0.mk H
                    clear H
                    obtain ⟨Ao40, co40, eo40⟩ := Kd.R_slice HO_9.out
                    subst eo40
                    obtain ⟨Ao41, co41, eo41⟩ := Kd.R_slice HO_6.out
                    subst eo41
                    go_wp2_with (first | (go_at_call 15; (with_reducible refine (laws_eqEntryS.calls kj10 _ _ t457 _ _ t450 true _ ?side1 ?side2 ?side3 ?side4 A38.out).mono ?_); (case side1 => repeat (first | exact (Kd.R_reads' HO_9.out).2.2 | (with_reducible refine Kd.C_alloc ?_ _) | (with_reducible refine Kd.C_drewN ?_ _) | (with_reducible refine Kd.C_drew ?_))); (case side2 => exact (Kd.R_reads' HO_9.out).2.1); (case side3 => repeat (first | exact (Kd.R_reads' HO_6.out).2.2 | (with_reducible refine Kd.C_alloc ?_ _) | (with_reducible refine Kd.C_drewN ?_ _) | (with_reducible refine Kd.C_drew ?_))); (case side4 => exact (Kd.R_reads' HO_6.out).2.1); rintro e w42 ⟨rfl, hb⟩; have n0_ := Aside0.mk (Kd.R_below (by (with_reducible repeat (first | apply Kd.R_alloc | apply Kd.R_drewN | apply Kd.R_drew)); exact HO_6.out) hb); have n1_ := Aside0.mk (Kd.R_below (by (with_reducible repeat (first | apply Kd.R_alloc | apply Kd.R_drewN | apply Kd.R_drew)); exact HO_8.out) hb); have n2_ := Aside0.mk (Kd.R_below (by (with_reducible repeat (first | apply Kd.R_alloc | apply Kd.R_drewN | apply Kd.R_drew)); exact HO_9.out) hb); have n3_ := Aside0.mk (Kd.R_below (by (with_reducible repeat (first | apply Kd.R_alloc | apply Kd.R_drewN | apply Kd.R_drew)); exact HO464.out) hb); have n4_ := Aside0.mk (below_step (by repeat (first | (with_reducible first | exact HB.out | apply below_alloc | apply pw_below_drewN | apply below_drew1) | exact HB.out)) hb); clear HO_6; clear HO_8; clear HO_9; clear HO464; clear HB; have HO_6 := n0_; have HO_8 := n1_; have HO_9 := n2_; have HO464 := n3_; have HB := n4_; clear n0_ n1_ n2_ n3_ n4_; (try clear hb); (try clear hb2); (try clear hk); (try clear hi)))
                    go_meet
                    case rel => exact ⟨_, ((t458 != t451)), (by first | rfl | (simp; done) | (simp [*]; done)), H', ⟨by have := HJ10.out; first | omega | exact Nat.le_refl _⟩, ⟨by (with_reducible repeat (first | apply Kd.R_alloc | apply Kd.R_drewN | apply Kd.R_drew)); exact Kd.R_mono HO_6.out (fun _ hk => hk.2.1)⟩, ⟨by (with_reducible repeat (first | apply Kd.R_alloc | apply Kd.R_drewN | apply Kd.R_drew)); exact Kd.R_mono HO_9.out (fun _ hk => hk.1)⟩, ⟨by repeat (first | (with_reducible first | exact HB.out | apply below_alloc | apply pw_below_drewN | apply below_drew1) | exact HB.out)⟩⟩
                  · replace c39 := Bool.eq_false_iff.mpr c39
                    subst c39
                    have H1 : (laws_FnExactCutEntry.j1 kj10 l0 a1 t450 t451 t457 true) = some r := by rw [if_neg (show ¬ (false = true) by decide)] at H; exact H
                    clear H
                    have H := H1
                    clear H1
                    have H' := Aside0.mk H
                    clear H
                    obtain ⟨Ao43, co43, eo43⟩ := Kd.R_slice HO_9.out
                    subst eo43
                    obtain ⟨Ao44, co44, eo44⟩ := Kd.R_slice HO_6.out
                    subst eo44
                    go_wp2_with (first | (go_at_call 15; (with_reducible refine (laws_eqEntryS.calls kj10 _ _ t457 _ _ t450 false _ ?side1 ?side2 ?side3 ?side4 A38.out).mono ?_); (case side1 => repeat (first | exact (Kd.R_reads' HO_9.out).2.2 | (with_reducible refine Kd.C_alloc ?_ _) | (with_reducible refine Kd.C_drewN ?_ _) | (with_reducible refine Kd.C_drew ?_))); (case side2 => exact (Kd.R_reads' HO_9.out).2.1); (case side3 => repeat (first | exact (Kd.R_reads' HO_6.out).2.2 | (with_reducible refine Kd.C_alloc ?_ _) | (with_reducible refine Kd.C_drewN ?_ _) | (with_reducible refine Kd.C_drew ?_))); (case side4 => exact (Kd.R_reads' HO_6.out).2.1); rintro e w45 ⟨rfl, hb⟩; have n0_ := Aside0.mk (Kd.R_below (by (with_reducible repeat (first | apply Kd.R_alloc | apply Kd.R_drewN | apply Kd.R_drew)); exact HO_6.out) hb); have n1_ := Aside0.mk (Kd.R_below (by (with_reducible repeat (first | apply Kd.R_alloc | apply Kd.R_drewN | apply Kd.R_drew)); exact HO_8.out) hb); have n2_ := Aside0.mk (Kd.R_below (by (with_reducible repeat (first | apply Kd.R_alloc | apply Kd.R_drewN | apply Kd.R_drew)); exact HO_9.out) hb); have n3_ := Aside0.mk (Kd.R_below (by (with_reducible repeat (first | apply Kd.R_alloc | apply Kd.R_drewN | apply Kd.R_drew)); exact HO464.out) hb); have n4_ := Aside0.mk (below_step (by repeat (first | (with_reducible first | exact HB.out | apply below_alloc | apply pw_below_drewN | apply below_drew1) | exact HB.out)) hb); clear HO_6; clear HO_8; clear HO_9; clear HO464; clear HB; have HO_6 := n0_; have HO_8 := n1_; have HO_9 := n2_; have HO464 := n3_; have HB := n4_; clear n0_ n1_ n2_ n3_ n4_; (try clear hb); (try clear hb2); (try clear hk); (try clear hi)))
                    go_meet
                    case rel => exact ⟨_, (true), (by first | rfl | (simp; done) | (simp [*]; done)), H', ⟨by have := HJ10.out; first | omega | exact Nat.le_refl _⟩, ⟨by (with_reducible repeat (first | apply Kd.R_alloc | apply Kd.R_drewN | apply Kd.R_drew)); exact Kd.R_mono HO_6.out (fun _ hk => hk.2.1)⟩, ⟨by (with_reducible repeat (first | apply Kd.R_alloc | apply Kd.R_drewN | apply Kd.R_drew)); exact Kd.R_mono HO_9.out (fun _ hk => hk.1)⟩, ⟨by repeat (first | (with_reducible first | exact HB.out | apply below_alloc | apply pw_below_drewN | apply below_drew1) | exact HB.out)⟩⟩
              case rest =>
                clear HC32
                try clear c1
                try clear c2
                try clear p2
                try clear c3
                try clear c3b0
                try clear c3b1
                try clear c5
                try clear c5b0
                try clear c6
                try clear c11
                try clear c13
                try clear c15
                try clear c19
                try clear c20
                try clear c25
                try clear c26
                try clear c27
                try clear c30
                try clear c37
                try clear c37b0
                try clear c39
                try clear p2
                obtain ⟨kq, x68_31, rfl, HA, HJ31, HO_6, HO_9, HB⟩ := hcut
                cases kq with
                | zero => exact absurd HA.out (by simp [laws_FnExactCutEntry.j1])
                | succ kj31 =>
                  have H := HA.out
                  clear HA
                  simp only [laws_FnExactCutEntry.j1] at H
                  by_cases c46 : x68_31 = true
                  · subst c46
                    have H1 : (some false) = some r := by rw [if_pos rfl] at H; exact H
                    clear H
                    have H := H1
                    clear H1
                    obtain rfl := Option.some.inj H
                    go_wp2
                    go_ret
                    exact ⟨by first | rfl | (simp [errW_none, errW_some] <;> rfl) | (simp [*, errW_none, errW_some] <;> rfl), by repeat (first | (with_reducible first | exact HB.out | apply below_alloc | apply pw_below_drewN | apply below_drew1) | exact HB.out)⟩
                  · replace c46 := Bool.eq_false_iff.mpr c46
                    subst c46
                    have H1 : ((laws_markEntryS.f kj31 t457 1).bind fun bt469 => ((laws_heldEntryS.f kj31 bt469.2 1).bind fun t471 => (if t471 < 0 then (some false) else (if t471 = bt469.1 then ((laws_toEntryS.f kj31 l0).bind fun t472 => ((impl_CutEntry.f kj31 t472 a1).bind fun bt475 => ((laws_eqEntryS.f kj31 bt475.1 t450).bind fun t479 => (if t479 = true then (laws_FnExactCutEntry.j2 kj31 bt469.2 bt469.1 (bt475.2 != t451)) else (laws_FnExactCutEntry.j2 kj31 bt469.2 bt469.1 true))))) else (some false))))) = some r := by rw [if_neg (show ¬ (false = true) by decide)] at H; exact H
                    clear H
                    have H := H1
                    clear H1
                    replace H := Option.bind_eq_some_iff.mp H
                    obtain ⟨⟨t469, t470⟩, A470, H⟩ := H
                    replace H : ((laws_heldEntryS.f kj31 t470 1).bind fun t471 => (if t471 < 0 then (some false) else (if t471 = t469 then ((laws_toEntryS.f kj31 l0).bind fun t472 => ((impl_CutEntry.f kj31 t472 a1).bind fun bt475 => ((laws_eqEntryS.f kj31 bt475.1 t450).bind fun t479 => (if t479 = true then (laws_FnExactCutEntry.j2 kj31 t470 t469 (bt475.2 != t451)) else (laws_FnExactCutEntry.j2 kj31 t470 t469 true))))) else (some false)))) = some r := H
                    have A47 := Aside0.mk A470
                    clear A470
                    replace H := Option.bind_eq_some_iff.mp H
                    obtain ⟨t471, A480, H⟩ := H
                    replace H : (if t471 < 0 then (some false) else (if t471 = t469 then ((laws_toEntryS.f kj31 l0).bind fun t472 => ((impl_CutEntry.f kj31 t472 a1).bind fun bt475 => ((laws_eqEntryS.f kj31 bt475.1 t450).bind fun t479 => (if t479 = true then (laws_FnExactCutEntry.j2 kj31 t470 t469 (bt475.2 != t451)) else (laws_FnExactCutEntry.j2 kj31 t470 t469 true))))) else (some false))) = some r := H
                    have A48 := Aside0.mk A480
                    clear A480
                    by_cases c49 : t471 < 0
                    · rw [if_pos c49] at H
                      have c49b0 : decide (t471 < 0) = true := decide_eq_true c49
                      clear c49
                      obtain rfl := Option.some.inj H
                      obtain ⟨Ao50, co50, eo50⟩ := Kd.R_slice HO_9.out
                      subst eo50
                      go_wp2_with (first | ((with_reducible refine gate_callee (f := 19) rfl ?_); refine goesL_ (some 71) rfl rfl Tryd.func19 (by kernel_rfl) rfl #[.slice Ao50 t457.length co50, .int .i64 1] rfl (by (try simp only [List.map_toArray, List.map_cons, List.map_nil]); first | done | rfl | (simp only [List.length_drop, List.length_take]; rfl)) ?_; (with_reducible refine (laws_markEntryS.calls kj31 (fun k_ => some k_ = (.slice Ao50 t457.length co50 : Value).ownBlock) (.slice Ao50 t457.length co50) t457 1 t469 t470 w _ ?side1 ?side2 A47.out).mono ?_); (case side1 => repeat (first | (with_reducible first | exact HB.out | apply below_alloc | apply pw_below_drewN | apply below_drew1) | exact HB.out)); (case side2 => exact Kd.R_tight rfl HO_9.out); rintro e w51 ⟨rfl, hy0, hb, hkp⟩; refine ⟨_, rfl, ?_⟩; have n0_ := Aside0.mk (Kd.R_mono (ok' := fun k_ => some k_ ≠ (.slice Ao50 t457.length co50 : Value).ownBlock) (Kd.R_keptB (HO_6.out) hkp (fun k_ hk_ hs_ => (hk_) hs_)) (fun k_ hk_ => hk_.1)); have n1_ := Aside0.mk (Kd.R_reok rfl hy0 (fun k_ e_ => HO_9.out.1 k_ e_)); have n2_ := Aside0.mk (hb); clear HO_6; clear HO_9; clear HB; have HO_6 := n0_; have HO_9 := n1_; have HB := n2_; clear n0_ n1_ n2_; (try clear hb); (try clear hkp); (try clear hy0)) | ((with_reducible refine gate_callee (f := 24) rfl ?_); refine goesL_ (some 74) rfl rfl Tryd.func24 (by kernel_rfl) rfl #[.slice Ao50 t470.length co50, .int .i64 1] rfl (by (try simp only [List.map_toArray, List.map_cons, List.map_nil]); first | done | (rw [show t470.length = t457.length from (Kd.R_reads' HO_9.out).1.symm] <;> rfl) | rfl | (simp only [List.length_drop, List.length_take]; rfl)) ?_; (with_reducible refine (laws_heldEntryS.calls kj31 _ _ t470 1 t471 _ ?side1 ?side2 A48.out).mono ?_); (case side1 => repeat (first | exact (Kd.R_reads' HO_9.out).2.2 | (with_reducible refine Kd.C_alloc ?_ _) | (with_reducible refine Kd.C_drewN ?_ _) | (with_reducible refine Kd.C_drew ?_))); (case side2 => rw [show t470.length = t457.length from (Kd.R_reads' HO_9.out).1.symm]; exact (Kd.R_reads' HO_9.out).2.1); rintro e w52 ⟨rfl, hb⟩; refine ⟨_, rfl, ?_⟩; have n0_ := Aside0.mk (Kd.R_below (by (with_reducible repeat (first | apply Kd.R_alloc | apply Kd.R_drewN | apply Kd.R_drew)); exact HO_6.out) hb); have n1_ := Aside0.mk (Kd.R_below (by (with_reducible repeat (first | apply Kd.R_alloc | apply Kd.R_drewN | apply Kd.R_drew)); exact HO_9.out) hb); have n2_ := Aside0.mk (below_step (by repeat (first | (with_reducible first | exact HB.out | apply below_alloc | apply pw_below_drewN | apply below_drew1) | exact HB.out)) hb); clear HO_6; clear HO_9; clear HB; have HO_6 := n0_; have HO_9 := n1_; have HB := n2_; clear n0_ n1_ n2_; (try clear hb); (try clear hb2); (try clear hk); (try clear hi)))
                      go_ret
                      exact ⟨by first | rfl | (simp [errW_none, errW_some] <;> rfl) | (simp [*, errW_none, errW_some] <;> rfl), by repeat (first | (with_reducible first | exact HB.out | apply below_alloc | apply pw_below_drewN | apply below_drew1) | exact HB.out)⟩
                    · rw [if_neg c49] at H
                      have c49b0 : decide (t471 < 0) = false := decide_eq_false c49
                      clear c49
                      by_cases c53 : t471 = t469
                      · rw [if_pos c53] at H
                        have c53b0 : (t471 == t469) = true := beq_iff_eq.mpr c53
                        have c53b1 : (t471 != t469) = false := bne_eq_false_iff_eq.mpr c53
                        clear c53
                        replace H := Option.bind_eq_some_iff.mp H
                        obtain ⟨t472, A540, H⟩ := H
                        replace H : ((impl_CutEntry.f kj31 t472 a1).bind fun bt475 => ((laws_eqEntryS.f kj31 bt475.1 t450).bind fun t479 => (if t479 = true then (laws_FnExactCutEntry.j2 kj31 t470 t469 (bt475.2 != t451)) else (laws_FnExactCutEntry.j2 kj31 t470 t469 true)))) = some r := H
                        have A54 := Aside0.mk A540
                        clear A540
                        replace H := Option.bind_eq_some_iff.mp H
                        obtain ⟨⟨t475, t476⟩, A550, H⟩ := H
                        replace H : ((laws_eqEntryS.f kj31 t475 t450).bind fun t479 => (if t479 = true then (laws_FnExactCutEntry.j2 kj31 t470 t469 (t476 != t451)) else (laws_FnExactCutEntry.j2 kj31 t470 t469 true))) = some r := H
                        have A55 := Aside0.mk A550
                        clear A550
                        have HC56 := Aside0.mk H
                        clear H
                        obtain ⟨Ao57, co57, eo57⟩ := Kd.R_slice HO_9.out
                        subst eo57
                        go_upto_region 27 with (first | ((with_reducible refine gate_callee (f := 19) rfl ?_); refine goesL_ (some 71) rfl rfl Tryd.func19 (by kernel_rfl) rfl #[.slice Ao57 t457.length co57, .int .i64 1] rfl (by (try simp only [List.map_toArray, List.map_cons, List.map_nil]); first | done | rfl | (simp only [List.length_drop, List.length_take]; rfl)) ?_; (with_reducible refine (laws_markEntryS.calls kj31 (fun k_ => some k_ = (.slice Ao57 t457.length co57 : Value).ownBlock) (.slice Ao57 t457.length co57) t457 1 t469 t470 w _ ?side1 ?side2 A47.out).mono ?_); (case side1 => repeat (first | (with_reducible first | exact HB.out | apply below_alloc | apply pw_below_drewN | apply below_drew1) | exact HB.out)); (case side2 => exact Kd.R_tight rfl HO_9.out); rintro e w58 ⟨rfl, hy0, hb, hkp⟩; refine ⟨_, rfl, ?_⟩; have n0_ := Aside0.mk (Kd.R_mono (ok' := fun k_ => some k_ ≠ (.slice Ao57 t457.length co57 : Value).ownBlock) (Kd.R_keptB (HO_6.out) hkp (fun k_ hk_ hs_ => (hk_) hs_)) (fun k_ hk_ => hk_.1)); have n1_ := Aside0.mk (Kd.R_reok rfl hy0 (fun k_ e_ => HO_9.out.1 k_ e_)); have n2_ := Aside0.mk (hb); clear HO_6; clear HO_9; clear HB; have HO_6 := n0_; have HO_9 := n1_; have HB := n2_; clear n0_ n1_ n2_; (try clear hb); (try clear hkp); (try clear hy0)) | ((with_reducible refine gate_callee (f := 24) rfl ?_); refine goesL_ (some 74) rfl rfl Tryd.func24 (by kernel_rfl) rfl #[.slice Ao57 t470.length co57, .int .i64 1] rfl (by (try simp only [List.map_toArray, List.map_cons, List.map_nil]); first | done | (rw [show t470.length = t457.length from (Kd.R_reads' HO_9.out).1.symm] <;> rfl) | rfl | (simp only [List.length_drop, List.length_take]; rfl)) ?_; (with_reducible refine (laws_heldEntryS.calls kj31 _ _ t470 1 t471 _ ?side1 ?side2 A48.out).mono ?_); (case side1 => repeat (first | exact (Kd.R_reads' HO_9.out).2.2 | (with_reducible refine Kd.C_alloc ?_ _) | (with_reducible refine Kd.C_drewN ?_ _) | (with_reducible refine Kd.C_drew ?_))); (case side2 => rw [show t470.length = t457.length from (Kd.R_reads' HO_9.out).1.symm]; exact (Kd.R_reads' HO_9.out).2.1); rintro e w59 ⟨rfl, hb⟩; refine ⟨_, rfl, ?_⟩; have n0_ := Aside0.mk (Kd.R_below (by (with_reducible repeat (first | apply Kd.R_alloc | apply Kd.R_drewN | apply Kd.R_drew)); exact HO_6.out) hb); have n1_ := Aside0.mk (Kd.R_below (by (with_reducible repeat (first | apply Kd.R_alloc | apply Kd.R_drewN | apply Kd.R_drew)); exact HO_9.out) hb); have n2_ := Aside0.mk (below_step (by repeat (first | (with_reducible first | exact HB.out | apply below_alloc | apply pw_below_drewN | apply below_drew1) | exact HB.out)) hb); clear HO_6; clear HO_9; clear HB; have HO_6 := n0_; have HO_9 := n1_; have HB := n2_; clear n0_ n1_ n2_; (try clear hb); (try clear hb2); (try clear hk); (try clear hi)) | ((with_reducible refine gate_callee (f := 13) rfl ?_); refine goesL_ (some 82) rfl rfl Tryd.func13 (by kernel_rfl) rfl #[.slice A0 l0.length c0] rfl (by (try simp only [List.map_toArray, List.map_cons, List.map_nil]); first | done | rfl | (simp only [List.length_drop, List.length_take]; rfl)) ?_; (with_reducible refine (laws_toEntryS.calls kj31 _ _ l0 t472 _ ?side1 ?side2 A54.out).mono ?_); (case side1 => repeat (first | exact (Kd.C_below HR0.out HB.out) | (with_reducible refine Kd.C_alloc ?_ _) | (with_reducible refine Kd.C_drewN ?_ _) | (with_reducible refine Kd.C_drew ?_))); (case side2 => exact HC0.out); rintro e w60 ⟨v473, rfl, ho0, hb⟩; refine ⟨_, rfl, ?_⟩; have n0_ := Aside0.mk (Kd.R_elder' (by (with_reducible repeat (first | apply Kd.R_alloc | apply Kd.R_drewN | apply Kd.R_drew)); exact HO_6.out) (Kd.R_base ho0) hb); have n1_ := Aside0.mk (Kd.R_elder' (by (with_reducible repeat (first | apply Kd.R_alloc | apply Kd.R_drewN | apply Kd.R_drew)); exact HO_9.out) (Kd.R_base ho0) hb); have n2_ := Aside0.mk (Kd.R_lower (Kd.R_new' (Kd.R_new' ho0 (Kd.R_lt (by (with_reducible repeat (first | apply Kd.R_alloc | apply Kd.R_drewN | apply Kd.R_drew)); exact HO_6.out))) (Kd.R_lt (by (with_reducible repeat (first | apply Kd.R_alloc | apply Kd.R_drewN | apply Kd.R_drew)); exact HO_9.out))) (below_size (by repeat (first | (with_reducible first | exact HB.out | apply below_alloc | apply pw_below_drewN | apply below_drew1) | exact HB.out)))); have n3_ := Aside0.mk (below_step (by repeat (first | (with_reducible first | exact HB.out | apply below_alloc | apply pw_below_drewN | apply below_drew1) | exact HB.out)) hb); clear HO_6; clear HO_9; clear HB; have HO_6 := n0_; have HO_9 := n1_; have HO474 := n2_; have HB := n3_; clear n0_ n1_ n2_ n3_; (try clear hb); (try clear hb2); (try clear hk); (try clear hi); (try clear ho0); obtain ⟨Ao61, co61, eo61⟩ := Kd.R_slice HO474.out; subst eo61) | ((with_reducible refine gate_callee (f := 26) rfl ?_); refine goesL_ (some 84) rfl rfl Tryd.func26 (by kernel_rfl) rfl #[.slice Ao61 t472.length co61, .string a1] rfl (by (try simp only [List.map_toArray, List.map_cons, List.map_nil]); first | done | rfl | (simp only [List.length_drop, List.length_take]; rfl)) ?_; (with_reducible refine (impl_CutEntry.calls kj31 _ _ t472 a1 t475 t476 _ ?side1 ?side2 ?side3 A55.out).mono ?_); (case side1 => refine EnvW.below HE.out ?_; repeat (first | (with_reducible first | exact HB.out | apply below_alloc | apply pw_below_drewN | apply below_drew1) | exact HB.out)); (case side2 => repeat (first | exact (Kd.R_reads' HO474.out).2.2 | (with_reducible refine Kd.C_alloc ?_ _) | (with_reducible refine Kd.C_drewN ?_ _) | (with_reducible refine Kd.C_drew ?_))); (case side3 => exact (Kd.R_reads' HO474.out).2.1); rintro e w62 ⟨v477, rfl, ho0, hb⟩; refine ⟨_, rfl, ?_⟩; have n0_ := Aside0.mk (Kd.R_elder' (by (with_reducible repeat (first | apply Kd.R_alloc | apply Kd.R_drewN | apply Kd.R_drew)); exact HO_6.out) (Kd.R_base ho0) hb); have n1_ := Aside0.mk (Kd.R_elder' (by (with_reducible repeat (first | apply Kd.R_alloc | apply Kd.R_drewN | apply Kd.R_drew)); exact HO_9.out) (Kd.R_base ho0) hb); have n2_ := Aside0.mk (Kd.R_elder' (by (with_reducible repeat (first | apply Kd.R_alloc | apply Kd.R_drewN | apply Kd.R_drew)); exact HO474.out) (Kd.R_base ho0) hb); have n3_ := Aside0.mk (Kd.R_lower (Kd.R_new' (Kd.R_new' (Kd.R_new' ho0 (Kd.R_lt (by (with_reducible repeat (first | apply Kd.R_alloc | apply Kd.R_drewN | apply Kd.R_drew)); exact HO_6.out))) (Kd.R_lt (by (with_reducible repeat (first | apply Kd.R_alloc | apply Kd.R_drewN | apply Kd.R_drew)); exact HO_9.out))) (Kd.R_lt (by (with_reducible repeat (first | apply Kd.R_alloc | apply Kd.R_drewN | apply Kd.R_drew)); exact HO474.out))) (below_size (by repeat (first | (with_reducible first | exact HB.out | apply below_alloc | apply pw_below_drewN | apply below_drew1) | exact HB.out)))); have n4_ := Aside0.mk (below_step (by repeat (first | (with_reducible first | exact HB.out | apply below_alloc | apply pw_below_drewN | apply below_drew1) | exact HB.out)) hb); clear HO_6; clear HO_9; clear HO474; clear HB; have HO_6 := n0_; have HO_9 := n1_; have HO474 := n2_; have HO478 := n3_; have HB := n4_; clear n0_ n1_ n2_ n3_ n4_; (try clear hb); (try clear hb2); (try clear hk); (try clear hi); (try clear ho0)))
                        (try simp only [Act.put, List.setIfInBounds_toArray, List.set_cons_zero, List.set_cons_succ])
                        go_cut [95] (fun v95 wc => ∃ (kq : Nat) (x95_55 : Bool), v95 = .bool x95_55 ∧ Aside0 (laws_FnExactCutEntry.j2 kq t470 t469 x95_55 = some r) ∧ Aside0 (kq ≤ kj31) ∧ Aside0 (Kd.R k47 47 wc w.heap.size (fun _ => True) (.slice Ao57 t457.length co57) t470) ∧ Aside0 (Below w.heap.size w wc))
                        case first =>
                          have H := HC56.out
                          clear HC56
                          replace H := Option.bind_eq_some_iff.mp H
                          obtain ⟨t479, A630, H⟩ := H
                          replace H : (if t479 = true then (laws_FnExactCutEntry.j2 kj31 t470 t469 (t476 != t451)) else (laws_FnExactCutEntry.j2 kj31 t470 t469 true)) = some r := H
                          have A63 := Aside0.mk A630
                          clear A630
                          by_cases c64 : t479 = true
                          · subst c64
                            have H1 : (laws_FnExactCutEntry.j2 kj31 t470 t469 (t476 != t451)) = some r := by rw [if_pos rfl] at H; exact H
                            clear H
                            have H := H1
                            clear H1
                            have H' := Aside0.mk H
                            clear H
                            obtain ⟨Ao65, co65, eo65⟩ := Kd.R_slice HO478.out
                            subst eo65
                            obtain ⟨Ao66, co66, eo66⟩ := Kd.R_slice HO_6.out
                            subst eo66
                            go_wp2_with (first | ((with_reducible refine gate_callee (f := 15) rfl ?_); refine goesL_ (some 89) rfl rfl Tryd.func15 (by kernel_rfl) rfl #[.slice Ao65 t475.length co65, .slice Ao66 t450.length co66] rfl (by (try simp only [List.map_toArray, List.map_cons, List.map_nil]); first | done | rfl | (simp only [List.length_drop, List.length_take]; rfl)) ?_; (with_reducible refine (laws_eqEntryS.calls kj31 _ _ t475 _ _ t450 true _ ?side1 ?side2 ?side3 ?side4 A63.out).mono ?_); (case side1 => repeat (first | exact (Kd.R_reads' HO478.out).2.2 | (with_reducible refine Kd.C_alloc ?_ _) | (with_reducible refine Kd.C_drewN ?_ _) | (with_reducible refine Kd.C_drew ?_))); (case side2 => exact (Kd.R_reads' HO478.out).2.1); (case side3 => repeat (first | exact (Kd.R_reads' HO_6.out).2.2 | (with_reducible refine Kd.C_alloc ?_ _) | (with_reducible refine Kd.C_drewN ?_ _) | (with_reducible refine Kd.C_drew ?_))); (case side4 => exact (Kd.R_reads' HO_6.out).2.1); rintro e w67 ⟨rfl, hb⟩; refine ⟨_, rfl, ?_⟩; have n0_ := Aside0.mk (Kd.R_below (by (with_reducible repeat (first | apply Kd.R_alloc | apply Kd.R_drewN | apply Kd.R_drew)); exact HO_6.out) hb); have n1_ := Aside0.mk (Kd.R_below (by (with_reducible repeat (first | apply Kd.R_alloc | apply Kd.R_drewN | apply Kd.R_drew)); exact HO_9.out) hb); have n2_ := Aside0.mk (Kd.R_below (by (with_reducible repeat (first | apply Kd.R_alloc | apply Kd.R_drewN | apply Kd.R_drew)); exact HO474.out) hb); have n3_ := Aside0.mk (Kd.R_below (by (with_reducible repeat (first | apply Kd.R_alloc | apply Kd.R_drewN | apply Kd.R_drew)); exact HO478.out) hb); have n4_ := Aside0.mk (below_step (by repeat (first | (with_reducible first | exact HB.out | apply below_alloc | apply pw_below_drewN | apply below_drew1) | exact HB.out)) hb); clear HO_6; clear HO_9; clear HO474; clear HO478; clear HB; have HO_6 := n0_; have HO_9 := n1_; have HO474 := n2_; have HO478 := n3_; have HB := n4_; clear n0_ n1_ n2_ n3_ n4_; (try clear hb); (try clear hb2); (try clear hk); (try clear hi)))
                            go_meet
                            case rel => exact ⟨_, ((t476 != t451)), (by first | rfl | (simp; done) | (simp [*]; done)), H', ⟨by have := HJ10.out; have := HJ31.out; first | omega | exact Nat.le_refl _⟩, ⟨by (with_reducible repeat (first | apply Kd.R_alloc | apply Kd.R_drewN | apply Kd.R_drew)); exact Kd.R_mono HO_9.out (fun _ hk => trivial)⟩, ⟨by repeat (first | (with_reducible first | exact HB.out | apply below_alloc | apply pw_below_drewN | apply below_drew1) | exact HB.out)⟩⟩
                          · replace c64 := Bool.eq_false_iff.mpr c64
                            subst c64
                            have H1 : (laws_FnExactCutEntry.j2 kj31 t470 t469 true) = some r := by rw [if_neg (show ¬ (false = true) by decide)] at H; exact H
                            clear H
                            have H := H1
                            clear H1
                            have H' := Aside0.mk H
                            clear H
                            obtain ⟨Ao68, co68, eo68⟩ := Kd.R_slice HO478.out
                            subst eo68
                            obtain ⟨Ao69, co69, eo69⟩ := Kd.R_slice HO_6.out
                            subst eo69
                            go_wp2_with (first | ((with_reducible refine gate_callee (f := 15) rfl ?_); refine goesL_ (some 89) rfl rfl Tryd.func15 (by kernel_rfl) rfl #[.slice Ao68 t475.length co68, .slice Ao69 t450.length co69] rfl (by (try simp only [List.map_toArray, List.map_cons, List.map_nil]); first | done | rfl | (simp only [List.length_drop, List.length_take]; rfl)) ?_; (with_reducible refine (laws_eqEntryS.calls kj31 _ _ t475 _ _ t450 false _ ?side1 ?side2 ?side3 ?side4 A63.out).mono ?_); (case side1 => repeat (first | exact (Kd.R_reads' HO478.out).2.2 | (with_reducible refine Kd.C_alloc ?_ _) | (with_reducible refine Kd.C_drewN ?_ _) | (with_reducible refine Kd.C_drew ?_))); (case side2 => exact (Kd.R_reads' HO478.out).2.1); (case side3 => repeat (first | exact (Kd.R_reads' HO_6.out).2.2 | (with_reducible refine Kd.C_alloc ?_ _) | (with_reducible refine Kd.C_drewN ?_ _) | (with_reducible refine Kd.C_drew ?_))); (case side4 => exact (Kd.R_reads' HO_6.out).2.1); rintro e w70 ⟨rfl, hb⟩; refine ⟨_, rfl, ?_⟩; have n0_ := Aside0.mk (Kd.R_below (by (with_reducible repeat (first | apply Kd.R_alloc | apply Kd.R_drewN | apply Kd.R_drew)); exact HO_6.out) hb); have n1_ := Aside0.mk (Kd.R_below (by (with_reducible repeat (first | apply Kd.R_alloc | apply Kd.R_drewN | apply Kd.R_drew)); exact HO_9.out) hb); have n2_ := Aside0.mk (Kd.R_below (by (with_reducible repeat (first | apply Kd.R_alloc | apply Kd.R_drewN | apply Kd.R_drew)); exact HO474.out) hb); have n3_ := Aside0.mk (Kd.R_below (by (with_reducible repeat (first | apply Kd.R_alloc | apply Kd.R_drewN | apply Kd.R_drew)); exact HO478.out) hb); have n4_ := Aside0.mk (below_step (by repeat (first | (with_reducible first | exact HB.out | apply below_alloc | apply pw_below_drewN | apply below_drew1) | exact HB.out)) hb); clear HO_6; clear HO_9; clear HO474; clear HO478; clear HB; have HO_6 := n0_; have HO_9 := n1_; have HO474 := n2_; have HO478 := n3_; have HB := n4_; clear n0_ n1_ n2_ n3_ n4_; (try clear hb); (try clear hb2); (try clear hk); (try clear hi)))
                            go_meet
                            case rel => exact ⟨_, (true), (by first | rfl | (simp; done) | (simp [*]; done)), H', ⟨by have := HJ10.out; have := HJ31.out; first | omega | exact Nat.le_refl _⟩, ⟨by (with_reducible repeat (first | apply Kd.R_alloc | apply Kd.R_drewN | apply Kd.R_drew)); exact Kd.R_mono HO_9.out (fun _ hk => trivial)⟩, ⟨by repeat (first | (with_reducible first | exact HB.out | apply below_alloc | apply pw_below_drewN | apply below_drew1) | exact HB.out)⟩⟩
                        case rest =>
                          clear HC56
                          try clear c1
                          try clear c2
                          try clear p2
                          try clear c3
                          try clear c3b0
                          try clear c3b1
                          try clear c4
                          try clear c5
                          try clear c5b0
                          try clear c6
                          try clear c11
                          try clear c13
                          try clear c15
                          try clear c19
                          try clear c20
                          try clear c24
                          try clear c25
                          try clear c26
                          try clear c27
                          try clear c30
                          try clear c37
                          try clear c37b0
                          try clear c39
                          try clear c46
                          try clear c49
                          try clear c49b0
                          try clear c53
                          try clear c53b0
                          try clear c53b1
                          try clear c64
                          try clear p2
                          obtain ⟨kq, x95_55, rfl, HA, HJ55, HO_9, HB⟩ := hcut
                          have hl9_55 := (Kd.R_reads' HO_9.out).1
                          rw [hl9_55] at HO_9
                          (try simp only [hl9_55])
                          cases kq with
                          | zero => exact absurd HA.out (by simp [laws_FnExactCutEntry.j2])
                          | succ kj55 =>
                            have H := HA.out
                            clear HA
                            simp only [laws_FnExactCutEntry.j2] at H
                            by_cases c71 : x95_55 = true
                            · subst c71
                              have H1 : (some false) = some r := by rw [if_pos rfl] at H; exact H
                              clear H
                              have H := H1
                              clear H1
                              obtain rfl := Option.some.inj H
                              go_wp2
                              go_ret
                              exact ⟨by first | rfl | (simp [errW_none, errW_some] <;> rfl) | (simp [*, errW_none, errW_some] <;> rfl), by repeat (first | (with_reducible first | exact HB.out | apply below_alloc | apply pw_below_drewN | apply below_drew1) | exact HB.out)⟩
                            · replace c71 := Bool.eq_false_iff.mpr c71
                              subst c71
                              have H1 : ((laws_heldEntryS.f kj55 t470 1).bind fun t480 => (if t480 < 0 then (some false) else (if t480 = t469 then (some true) else (some false)))) = some r := by rw [if_neg (show ¬ (false = true) by decide)] at H; exact H
                              clear H
                              have H := H1
                              clear H1
                              replace H := Option.bind_eq_some_iff.mp H
                              obtain ⟨t480, A720, H⟩ := H
                              replace H : (if t480 < 0 then (some false) else (if t480 = t469 then (some true) else (some false))) = some r := H
                              have A72 := Aside0.mk A720
                              clear A720
                              by_cases c73 : t480 < 0
                              · rw [if_pos c73] at H
                                have c73b0 : decide (t480 < 0) = true := decide_eq_true c73
                                clear c73
                                obtain rfl := Option.some.inj H
                                go_wp2_with (first | ((with_reducible refine gate_callee (f := 24) rfl ?_); refine goesL_ (some 98) rfl rfl Tryd.func24 (by kernel_rfl) rfl #[.slice Ao57 t470.length co57, .int .i64 1] rfl (by (try simp only [List.map_toArray, List.map_cons, List.map_nil]); first | done | rfl | (simp only [List.length_drop, List.length_take]; rfl)) ?_; (with_reducible refine (laws_heldEntryS.calls kj55 _ _ t470 1 t480 _ ?side1 ?side2 A72.out).mono ?_); (case side1 => repeat (first | exact (Kd.R_reads' HO_9.out).2.2 | (with_reducible refine Kd.C_alloc ?_ _) | (with_reducible refine Kd.C_drewN ?_ _) | (with_reducible refine Kd.C_drew ?_))); (case side2 => exact (Kd.R_reads' HO_9.out).2.1); rintro e w74 ⟨rfl, hb⟩; refine ⟨_, rfl, ?_⟩; have n0_ := Aside0.mk (Kd.R_below (by (with_reducible repeat (first | apply Kd.R_alloc | apply Kd.R_drewN | apply Kd.R_drew)); exact HO_9.out) hb); have n1_ := Aside0.mk (below_step (by repeat (first | (with_reducible first | exact HB.out | apply below_alloc | apply pw_below_drewN | apply below_drew1) | exact HB.out)) hb); clear HO_9; clear HB; have HO_9 := n0_; have HB := n1_; clear n0_ n1_; (try clear hb); (try clear hb2); (try clear hk); (try clear hi)))
                                go_ret
                                exact ⟨by first | rfl | (simp [errW_none, errW_some] <;> rfl) | (simp [*, errW_none, errW_some] <;> rfl), by repeat (first | (with_reducible first | exact HB.out | apply below_alloc | apply pw_below_drewN | apply below_drew1) | exact HB.out)⟩
                              · rw [if_neg c73] at H
                                have c73b0 : decide (t480 < 0) = false := decide_eq_false c73
                                clear c73
                                by_cases c75 : t480 = t469
                                · rw [if_pos c75] at H
                                  have c75b0 : (t480 == t469) = true := beq_iff_eq.mpr c75
                                  have c75b1 : (t480 != t469) = false := bne_eq_false_iff_eq.mpr c75
                                  clear c75
                                  obtain rfl := Option.some.inj H
                                  go_wp2_with (first | ((with_reducible refine gate_callee (f := 24) rfl ?_); refine goesL_ (some 98) rfl rfl Tryd.func24 (by kernel_rfl) rfl #[.slice Ao57 t470.length co57, .int .i64 1] rfl (by (try simp only [List.map_toArray, List.map_cons, List.map_nil]); first | done | rfl | (simp only [List.length_drop, List.length_take]; rfl)) ?_; (with_reducible refine (laws_heldEntryS.calls kj55 _ _ t470 1 t480 _ ?side1 ?side2 A72.out).mono ?_); (case side1 => repeat (first | exact (Kd.R_reads' HO_9.out).2.2 | (with_reducible refine Kd.C_alloc ?_ _) | (with_reducible refine Kd.C_drewN ?_ _) | (with_reducible refine Kd.C_drew ?_))); (case side2 => exact (Kd.R_reads' HO_9.out).2.1); rintro e w76 ⟨rfl, hb⟩; refine ⟨_, rfl, ?_⟩; have n0_ := Aside0.mk (Kd.R_below (by (with_reducible repeat (first | apply Kd.R_alloc | apply Kd.R_drewN | apply Kd.R_drew)); exact HO_9.out) hb); have n1_ := Aside0.mk (below_step (by repeat (first | (with_reducible first | exact HB.out | apply below_alloc | apply pw_below_drewN | apply below_drew1) | exact HB.out)) hb); clear HO_9; clear HB; have HO_9 := n0_; have HB := n1_; clear n0_ n1_; (try clear hb); (try clear hb2); (try clear hk); (try clear hi)))
                                  go_ret
                                  exact ⟨by first | rfl | (simp [errW_none, errW_some] <;> rfl) | (simp [*, errW_none, errW_some] <;> rfl), by repeat (first | (with_reducible first | exact HB.out | apply below_alloc | apply pw_below_drewN | apply below_drew1) | exact HB.out)⟩
                                · rw [if_neg c75] at H
                                  have c75b0 : (t480 == t469) = false := beq_eq_false_iff_ne.mpr c75
                                  have c75b1 : (t480 != t469) = true := bne_iff_ne.mpr c75
                                  obtain rfl := Option.some.inj H
                                  go_wp2_with (first | ((with_reducible refine gate_callee (f := 24) rfl ?_); refine goesL_ (some 98) rfl rfl Tryd.func24 (by kernel_rfl) rfl #[.slice Ao57 t470.length co57, .int .i64 1] rfl (by (try simp only [List.map_toArray, List.map_cons, List.map_nil]); first | done | rfl | (simp only [List.length_drop, List.length_take]; rfl)) ?_; (with_reducible refine (laws_heldEntryS.calls kj55 _ _ t470 1 t480 _ ?side1 ?side2 A72.out).mono ?_); (case side1 => repeat (first | exact (Kd.R_reads' HO_9.out).2.2 | (with_reducible refine Kd.C_alloc ?_ _) | (with_reducible refine Kd.C_drewN ?_ _) | (with_reducible refine Kd.C_drew ?_))); (case side2 => exact (Kd.R_reads' HO_9.out).2.1); rintro e w77 ⟨rfl, hb⟩; refine ⟨_, rfl, ?_⟩; have n0_ := Aside0.mk (Kd.R_below (by (with_reducible repeat (first | apply Kd.R_alloc | apply Kd.R_drewN | apply Kd.R_drew)); exact HO_9.out) hb); have n1_ := Aside0.mk (below_step (by repeat (first | (with_reducible first | exact HB.out | apply below_alloc | apply pw_below_drewN | apply below_drew1) | exact HB.out)) hb); clear HO_9; clear HB; have HO_9 := n0_; have HB := n1_; clear n0_ n1_; (try clear hb); (try clear hb2); (try clear hk); (try clear hi)))
                                  go_ret
                                  exact ⟨by first | rfl | (simp [errW_none, errW_some] <;> rfl) | (simp [*, errW_none, errW_some] <;> rfl), by repeat (first | (with_reducible first | exact HB.out | apply below_alloc | apply pw_below_drewN | apply below_drew1) | exact HB.out)⟩
                      · rw [if_neg c53] at H
                        have c53b0 : (t471 == t469) = false := beq_eq_false_iff_ne.mpr c53
                        have c53b1 : (t471 != t469) = true := bne_iff_ne.mpr c53
                        obtain rfl := Option.some.inj H
                        obtain ⟨Ao78, co78, eo78⟩ := Kd.R_slice HO_9.out
                        subst eo78
                        go_wp2_with (first | ((with_reducible refine gate_callee (f := 19) rfl ?_); refine goesL_ (some 71) rfl rfl Tryd.func19 (by kernel_rfl) rfl #[.slice Ao78 t457.length co78, .int .i64 1] rfl (by (try simp only [List.map_toArray, List.map_cons, List.map_nil]); first | done | rfl | (simp only [List.length_drop, List.length_take]; rfl)) ?_; (with_reducible refine (laws_markEntryS.calls kj31 (fun k_ => some k_ = (.slice Ao78 t457.length co78 : Value).ownBlock) (.slice Ao78 t457.length co78) t457 1 t469 t470 w _ ?side1 ?side2 A47.out).mono ?_); (case side1 => repeat (first | (with_reducible first | exact HB.out | apply below_alloc | apply pw_below_drewN | apply below_drew1) | exact HB.out)); (case side2 => exact Kd.R_tight rfl HO_9.out); rintro e w79 ⟨rfl, hy0, hb, hkp⟩; refine ⟨_, rfl, ?_⟩; have n0_ := Aside0.mk (Kd.R_mono (ok' := fun k_ => some k_ ≠ (.slice Ao78 t457.length co78 : Value).ownBlock) (Kd.R_keptB (HO_6.out) hkp (fun k_ hk_ hs_ => (hk_) hs_)) (fun k_ hk_ => hk_.1)); have n1_ := Aside0.mk (Kd.R_reok rfl hy0 (fun k_ e_ => HO_9.out.1 k_ e_)); have n2_ := Aside0.mk (hb); clear HO_6; clear HO_9; clear HB; have HO_6 := n0_; have HO_9 := n1_; have HB := n2_; clear n0_ n1_ n2_; (try clear hb); (try clear hkp); (try clear hy0)) | ((with_reducible refine gate_callee (f := 24) rfl ?_); refine goesL_ (some 74) rfl rfl Tryd.func24 (by kernel_rfl) rfl #[.slice Ao78 t470.length co78, .int .i64 1] rfl (by (try simp only [List.map_toArray, List.map_cons, List.map_nil]); first | done | (rw [show t470.length = t457.length from (Kd.R_reads' HO_9.out).1.symm] <;> rfl) | rfl | (simp only [List.length_drop, List.length_take]; rfl)) ?_; (with_reducible refine (laws_heldEntryS.calls kj31 _ _ t470 1 t471 _ ?side1 ?side2 A48.out).mono ?_); (case side1 => repeat (first | exact (Kd.R_reads' HO_9.out).2.2 | (with_reducible refine Kd.C_alloc ?_ _) | (with_reducible refine Kd.C_drewN ?_ _) | (with_reducible refine Kd.C_drew ?_))); (case side2 => rw [show t470.length = t457.length from (Kd.R_reads' HO_9.out).1.symm]; exact (Kd.R_reads' HO_9.out).2.1); rintro e w80 ⟨rfl, hb⟩; refine ⟨_, rfl, ?_⟩; have n0_ := Aside0.mk (Kd.R_below (by (with_reducible repeat (first | apply Kd.R_alloc | apply Kd.R_drewN | apply Kd.R_drew)); exact HO_6.out) hb); have n1_ := Aside0.mk (Kd.R_below (by (with_reducible repeat (first | apply Kd.R_alloc | apply Kd.R_drewN | apply Kd.R_drew)); exact HO_9.out) hb); have n2_ := Aside0.mk (below_step (by repeat (first | (with_reducible first | exact HB.out | apply below_alloc | apply pw_below_drewN | apply below_drew1) | exact HB.out)) hb); clear HO_6; clear HO_9; clear HB; have HO_6 := n0_; have HO_9 := n1_; have HB := n2_; clear n0_ n1_ n2_; (try clear hb); (try clear hb2); (try clear hk); (try clear hi)))
                        go_ret
                        exact ⟨by first | rfl | (simp [errW_none, errW_some] <;> rfl) | (simp [*, errW_none, errW_some] <;> rfl), by repeat (first | (with_reducible first | exact HB.out | apply below_alloc | apply pw_below_drewN | apply below_drew1) | exact HB.out)⟩
            · replace c30 := Bool.eq_false_iff.mpr c30
              subst c30
              have H1 : (some false) = some r := by rw [if_neg (show ¬ (false = true) by decide)] at H; exact H
              clear H
              have H := H1
              clear H1
              obtain rfl := Option.some.inj H
              go_wp2_with (first | ((with_reducible refine gate_callee (f := 13) rfl ?_); refine goesL_ (some 50) rfl rfl Tryd.func13 (by kernel_rfl) rfl #[.slice A0 l0.length c0] rfl (by (try simp only [List.map_toArray, List.map_cons, List.map_nil]); first | done | rfl | (simp only [List.length_drop, List.length_take]; rfl)) ?_; (with_reducible refine (laws_toEntryS.calls kj10 _ _ l0 t462 _ ?side1 ?side2 A28.out).mono ?_); (case side1 => repeat (first | exact (Kd.C_below HR0.out HB.out) | (with_reducible refine Kd.C_alloc ?_ _) | (with_reducible refine Kd.C_drewN ?_ _) | (with_reducible refine Kd.C_drew ?_))); (case side2 => exact HC0.out); rintro e w81 ⟨v463, rfl, ho0, hb⟩; refine ⟨_, rfl, ?_⟩; have n0_ := Aside0.mk (Kd.R_elder' (by (with_reducible repeat (first | apply Kd.R_alloc | apply Kd.R_drewN | apply Kd.R_drew)); exact HO_6.out) (Kd.R_base ho0) hb); have n1_ := Aside0.mk (Kd.R_elder' (by (with_reducible repeat (first | apply Kd.R_alloc | apply Kd.R_drewN | apply Kd.R_drew)); exact HO_8.out) (Kd.R_base ho0) hb); have n2_ := Aside0.mk (Kd.R_elder' (by (with_reducible repeat (first | apply Kd.R_alloc | apply Kd.R_drewN | apply Kd.R_drew)); exact HO_9.out) (Kd.R_base ho0) hb); have n3_ := Aside0.mk (Kd.R_lower (Kd.R_new' (Kd.R_new' (Kd.R_new' ho0 (Kd.R_lt (by (with_reducible repeat (first | apply Kd.R_alloc | apply Kd.R_drewN | apply Kd.R_drew)); exact HO_6.out))) (Kd.R_lt (by (with_reducible repeat (first | apply Kd.R_alloc | apply Kd.R_drewN | apply Kd.R_drew)); exact HO_8.out))) (Kd.R_lt (by (with_reducible repeat (first | apply Kd.R_alloc | apply Kd.R_drewN | apply Kd.R_drew)); exact HO_9.out))) (below_size (by repeat (first | (with_reducible first | exact HB.out | apply below_alloc | apply pw_below_drewN | apply below_drew1) | exact HB.out)))); have n4_ := Aside0.mk (below_step (by repeat (first | (with_reducible first | exact HB.out | apply below_alloc | apply pw_below_drewN | apply below_drew1) | exact HB.out)) hb); clear HO_6; clear HO_8; clear HO_9; clear HB; have HO_6 := n0_; have HO_8 := n1_; have HO_9 := n2_; have HO464 := n3_; have HB := n4_; clear n0_ n1_ n2_ n3_ n4_; (try clear hb); (try clear hb2); (try clear hk); (try clear hi); (try clear ho0); obtain ⟨Ao82, co82, eo82⟩ := Kd.R_slice HO464.out; subst eo82) | ((with_reducible refine gate_callee (f := 15) rfl ?_); refine goesL_ (some 51) rfl rfl Tryd.func15 (by kernel_rfl) rfl #[.slice Ao17 t454.length co17, .slice Ao82 t462.length co82] rfl (by (try simp only [List.map_toArray, List.map_cons, List.map_nil]); first | done | rfl | (simp only [List.length_drop, List.length_take]; rfl)) ?_; (with_reducible refine (laws_eqEntryS.calls kj10 _ _ t454 _ _ t462 false _ ?side1 ?side2 ?side3 ?side4 A29.out).mono ?_); (case side1 => repeat (first | exact (Kd.R_reads' HO_8.out).2.2 | (with_reducible refine Kd.C_alloc ?_ _) | (with_reducible refine Kd.C_drewN ?_ _) | (with_reducible refine Kd.C_drew ?_))); (case side2 => exact (Kd.R_reads' HO_8.out).2.1); (case side3 => repeat (first | exact (Kd.R_reads' HO464.out).2.2 | (with_reducible refine Kd.C_alloc ?_ _) | (with_reducible refine Kd.C_drewN ?_ _) | (with_reducible refine Kd.C_drew ?_))); (case side4 => exact (Kd.R_reads' HO464.out).2.1); rintro e w83 ⟨rfl, hb⟩; refine ⟨_, rfl, ?_⟩; have n0_ := Aside0.mk (Kd.R_below (by (with_reducible repeat (first | apply Kd.R_alloc | apply Kd.R_drewN | apply Kd.R_drew)); exact HO_6.out) hb); have n1_ := Aside0.mk (Kd.R_below (by (with_reducible repeat (first | apply Kd.R_alloc | apply Kd.R_drewN | apply Kd.R_drew)); exact HO_8.out) hb); have n2_ := Aside0.mk (Kd.R_below (by (with_reducible repeat (first | apply Kd.R_alloc | apply Kd.R_drewN | apply Kd.R_drew)); exact HO_9.out) hb); have n3_ := Aside0.mk (Kd.R_below (by (with_reducible repeat (first | apply Kd.R_alloc | apply Kd.R_drewN | apply Kd.R_drew)); exact HO464.out) hb); have n4_ := Aside0.mk (below_step (by repeat (first | (with_reducible first | exact HB.out | apply below_alloc | apply pw_below_drewN | apply below_drew1) | exact HB.out)) hb); clear HO_6; clear HO_8; clear HO_9; clear HO464; clear HB; have HO_6 := n0_; have HO_8 := n1_; have HO_9 := n2_; have HO464 := n3_; have HB := n4_; clear n0_ n1_ n2_ n3_ n4_; (try clear hb); (try clear hb2); (try clear hk); (try clear hi)))
              go_ret
              exact ⟨by first | rfl | (simp [errW_none, errW_some] <;> rfl) | (simp [*, errW_none, errW_some] <;> rfl), by repeat (first | (with_reducible first | exact HB.out | apply below_alloc | apply pw_below_drewN | apply below_drew1) | exact HB.out)⟩
end Go.Proofs.YtgghefjkkidaoaaDoor.P
end
