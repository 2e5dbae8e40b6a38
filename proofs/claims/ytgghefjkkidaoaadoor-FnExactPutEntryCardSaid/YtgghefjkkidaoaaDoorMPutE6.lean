/- Texts of PutE, put together by program. -/
import Derived.Test.YtgghefjkkidaoaaDoorMPutE3
import Derived.Test.YtgghefjkkidaoaaDoorMPutE5
import Derived.Test.YtgghefjkkidaoaaDoorMPutE4

section
namespace Go.Proofs.YtgghefjkkidaoaaDoor.P
open Go.RowKit Go.Proofs.YtgghefjkkidaoaaDoorW.PrintWords Go.Proofs.YtgghefjkkidaoaaDoorW.PrintLast Go.Proofs.YtgghefjkkidaoaaDoorW.PrintMore Go.Proofs.YtgghefjkkidaoaaDoorM
attribute [local go_sem] max2_int min2_int max_two min_two max_three min_three max_four min_four   -- for this text's walks alone
set_option linter.unusedVariables false
set_option linter.unusedSimpArgs false
def laws_heldEntryS.l0 : Nat → List (S47) → Int → Int → Option (Int)
  | 0, _, _, _ => none
  | k + 1, x0, x1, x5 => if x5 < (x0.length : Int) then (if 0 ≤ x5 then ((laws_markText.f k x1).bind fun t381 => (if ((rd_T47 x0 x5).f0).toList = t381.toList then (if ((rd_T47 x0 x5).f1) = (wrap64 (x1 + 1)) then ((laws_markText.f k (wrap64 ((wrap64 (x1 + 1)) + 1))).bind fun t384 => (if ((rd_T47 x0 x5).f2).toList = t384.toList then (if (((rd_T47 x0 x5).f3) != ((Int.tmod (wrap64 ((wrap64 ((wrap64 (x1 + 1)) + 1)) + 1)) 3) == 0)) = true then (some (-1)) else (laws_heldEntryS.l0 k x0 (wrap64 ((wrap64 ((wrap64 ((wrap64 (x1 + 1)) + 1)) + 1)) + 1)) (wrap64 (x5 + 1)))) else (some (-1)))) else (some (-1))) else (some (-1)))) else (none)) else (some x1)
def laws_heldEntryS.f (k : Nat) (l0 : List (S47)) (a1 : Int) : Option (Int) := laws_heldEntryS.l0 k l0 a1 0
def laws_heldEntryS.T4 : Bool × List (List Nat × List Nat) := (true, [([], []), ([], []), ([0, 1], [0, 1]), ([2], [2]), ([3], [3]), ([], []), ([5], [5]), ([4, 6], [4, 6])])
def laws_heldEntryS.B4 : List Nat := [0, 0, 3, 7, 15, 0, 32, 127]
theorem laws_heldEntryS.tab4 : rtab .any (opsOf Tryd.f24 4) = laws_heldEntryS.T4 := by kernel_rfl
theorem laws_heldEntryS.bits4 : waitsOk laws_heldEntryS.T4.2 laws_heldEntryS.B4 = true := by kernel_rfl
def laws_heldEntryS.T10 : Bool × List (List Nat × List Nat) := (true, [([], []), ([], []), ([0, 1], [0, 1]), ([2], [2]), ([3], [3]), ([], []), ([5], [5]), ([4, 6], [4, 6])])
def laws_heldEntryS.B10 : List Nat := [0, 0, 3, 7, 15, 0, 32, 127]
theorem laws_heldEntryS.tab10 : rtab .any (opsOf Tryd.f24 10) = laws_heldEntryS.T10 := by kernel_rfl
theorem laws_heldEntryS.bits10 : waitsOk laws_heldEntryS.T10.2 laws_heldEntryS.B10 = true := by kernel_rfl
set_option maxHeartbeats 8000000 in
set_option maxRecDepth 100000 in
theorem laws_heldEntryS.calls (k : Nat) (A0 : Option Addr) (c0 : Nat) (l0 : List (S47)) (a1 : Int) (r : Int) (w : World) (hr0 : Kd.C k47 w A0 l0.length l0) (hc0 : l0.length ≤ c0) (h : laws_heldEntryS.f k l0 a1 = some r) :
    Calls Tryd.prog 24 #[.slice A0 l0.length c0, .int .i64 a1] w fun e w' => e = .returned (.int .i64 r) ∧ Below w.heap.size w w' := by
  have HR0 := Aside0.mk hr0
  have HC0 := Aside0.mk hc0
  clear hr0 hc0
  have HB := Aside0.mk (Below.refl w.heap.size w)
  have H : (laws_heldEntryS.l0 k l0 a1 0) = some r := h
  clear h
  have H' := Aside0.mk H
  clear H
  go_enter Tryd.func24, Tryd.ntmps24
  go_wp2
  go_loopg [1, 5] k (fun kq v1 v5 w' => ∃ (x1_1 : Int) (x5_1 : Int), v1 = .int .i64 x1_1 ∧ v5 = .int .i64 x5_1 ∧ Aside0 (laws_heldEntryS.l0 kq l0 x1_1 x5_1 = some r) ∧ Aside0 (kq ≤ k) ∧ Aside0 (Below w.heap.size w w'))
  case atStart => exact ⟨(a1), (0), (by first | rfl | (simp; done) | (simp [*]; done)), (by first | rfl | (simp; done) | (simp [*]; done)), H', ⟨Nat.le_refl _⟩, ⟨by repeat (first | (with_reducible first | exact HB.out | apply below_alloc | apply pw_below_drewN | apply below_drew1) | exact HB.out)⟩⟩
  case round =>
    clear H'
    try clear c2
    try clear p2
    obtain ⟨x1_1, x5_1, rfl, rfl, HA, HK1, HB⟩ := hrel
    cases gk with
    | zero => exact absurd HA.out (by simp [laws_heldEntryS.l0])
    | succ k1 =>
      have H := HA.out
      clear HA
      simp only [laws_heldEntryS.l0] at H
      by_cases c3 : x5_1 < (l0.length : Int)
      · rw [if_pos c3] at H
        have c3b0 : decide (x5_1 < (l0.length : Int)) = true := decide_eq_true c3
        clear c3
        by_cases c4 : 0 ≤ x5_1
        · rw [if_pos c4] at H
          have c4b0 : decide (0 ≤ x5_1) = true := decide_eq_true c4
          clear c4
          replace H := Option.bind_eq_some_iff.mp H
          obtain ⟨t381, A50, H⟩ := H
          replace H : (if ((rd_T47 l0 x5_1).f0).toList = t381.toList then (if ((rd_T47 l0 x5_1).f1) = (wrap64 (x1_1 + 1)) then ((laws_markText.f k1 (wrap64 ((wrap64 (x1_1 + 1)) + 1))).bind fun t384 => (if ((rd_T47 l0 x5_1).f2).toList = t384.toList then (if (((rd_T47 l0 x5_1).f3) != ((Int.tmod (wrap64 ((wrap64 ((wrap64 (x1_1 + 1)) + 1)) + 1)) 3) == 0)) = true then (some (-1)) else (laws_heldEntryS.l0 k1 l0 (wrap64 ((wrap64 ((wrap64 ((wrap64 (x1_1 + 1)) + 1)) + 1)) + 1)) (wrap64 (x5_1 + 1)))) else (some (-1)))) else (some (-1))) else (some (-1))) = some r := H
          have A5 := Aside0.mk A50
          clear A50
          by_cases c6 : ((rd_T47 l0 x5_1).f0).toList = t381.toList
          · rw [if_pos c6] at H
            have c6b0 : (((rd_T47 l0 x5_1).f0).toList == t381.toList) = true := beq_iff_eq.mpr c6
            have c6b1 : (((rd_T47 l0 x5_1).f0).toList != t381.toList) = false := bne_eq_false_iff_eq.mpr c6
            clear c6
            by_cases c7 : ((rd_T47 l0 x5_1).f1) = (wrap64 (x1_1 + 1))
            · rw [if_pos c7] at H
              have c7b0 : (((rd_T47 l0 x5_1).f1) == (wrap64 (x1_1 + 1))) = true := beq_iff_eq.mpr c7
              have c7b1 : (((rd_T47 l0 x5_1).f1) != (wrap64 (x1_1 + 1))) = false := bne_eq_false_iff_eq.mpr c7
              clear c7
              replace H := Option.bind_eq_some_iff.mp H
              obtain ⟨t384, A80, H⟩ := H
              replace H : (if ((rd_T47 l0 x5_1).f2).toList = t384.toList then (if (((rd_T47 l0 x5_1).f3) != ((Int.tmod (wrap64 ((wrap64 ((wrap64 (x1_1 + 1)) + 1)) + 1)) 3) == 0)) = true then (some (-1)) else (laws_heldEntryS.l0 k1 l0 (wrap64 ((wrap64 ((wrap64 ((wrap64 (x1_1 + 1)) + 1)) + 1)) + 1)) (wrap64 (x5_1 + 1)))) else (some (-1))) = some r := H
              have A8 := Aside0.mk A80
              clear A80
              by_cases c9 : ((rd_T47 l0 x5_1).f2).toList = t384.toList
              · rw [if_pos c9] at H
                have c9b0 : (((rd_T47 l0 x5_1).f2).toList == t384.toList) = true := beq_iff_eq.mpr c9
                have c9b1 : (((rd_T47 l0 x5_1).f2).toList != t384.toList) = false := bne_eq_false_iff_eq.mpr c9
                clear c9
                by_cases c10 : (((rd_T47 l0 x5_1).f3) != ((Int.tmod (wrap64 ((wrap64 ((wrap64 (x1_1 + 1)) + 1)) + 1)) 3) == 0)) = true
                · rw [if_pos c10] at H
                  have c10b0 : (((rd_T47 l0 x5_1).f3) != ((Int.tmod (wrap64 ((wrap64 ((wrap64 (x1_1 + 1)) + 1)) + 1)) 3) == 0)) = true := c10
                  (try (have c10b1 : decide (((rd_T47 l0 x5_1).f3) = ((Int.tmod (wrap64 ((wrap64 ((wrap64 (x1_1 + 1)) + 1)) + 1)) 3) == 0)) = false := by simpa using c10))
                  (try (have c10b2 : (((rd_T47 l0 x5_1).f3) == ((Int.tmod (wrap64 ((wrap64 ((wrap64 (x1_1 + 1)) + 1)) + 1)) 3) == 0)) = false := by simpa using c10))
                  (try (have c10b3 : ¬ (((rd_T47 l0 x5_1).f3) = ((Int.tmod (wrap64 ((wrap64 ((wrap64 (x1_1 + 1)) + 1)) + 1)) 3) == 0)) := by simpa using c10))
                  clear c10
                  obtain rfl := Option.some.inj H
                  try go_wp2
                  have n0_ := Aside0.mk (below_drew1 HB.out)
                  clear HB
                  have HB := n0_
                  clear n0_
                  have p380 : 0 ≤ (x5_1 : Int) := of_decide_eq_true (by first | (with_reducible assumption) | assumption)
                  have q380 : x5_1 < (l0.length : Int) := of_decide_eq_true (by first | (with_reducible assumption) | assumption)
                  obtain ⟨ad380, e380, hx380_0, hx380_1, hx380_2, hx380_3⟩ := at_T47 HR0.out x5_1 p380 q380
                  have hw380_3 := hx380_3
                  have hw380_2 := hx380_2
                  have hw380_1 := hx380_1
                  have hw380_0 := hx380_0
                  cases e380
                  replace hx380_0 := (HB.out.cell (World.block_lt_of_cell? w _ hx380_0)).trans hx380_0
                  replace hx380_1 := (HB.out.cell (World.block_lt_of_cell? w _ hx380_1)).trans hx380_1
                  replace hx380_2 := (HB.out.cell (World.block_lt_of_cell? w _ hx380_2)).trans hx380_2
                  replace hx380_3 := (HB.out.cell (World.block_lt_of_cell? w _ hx380_3)).trans hx380_3
                  replace p380 := eq_true p380
                  replace q380 := eq_true q380
                  refine start_ (n := 8) (S := fun w' => w'.cell? (ad380.add ((x5_1).toNat * 4)) = some (.string ((rd_T47 l0 x5_1).f0)) ∧ w'.cell? ⟨(ad380.add ((x5_1).toNat * 4)).block, (ad380.add ((x5_1).toNat * 4)).off + 1, none⟩ = some (.int .i64 ((rd_T47 l0 x5_1).f1)) ∧ w'.cell? ⟨(ad380.add ((x5_1).toNat * 4)).block, (ad380.add ((x5_1).toNat * 4)).off + 2, none⟩ = some (.string ((rd_T47 l0 x5_1).f2)) ∧ w'.cell? ⟨(ad380.add ((x5_1).toNat * 4)).block, (ad380.add ((x5_1).toNat * 4)).off + 3, none⟩ = some (.bool ((rd_T47 l0 x5_1).f3))) (ds := []) #[false, false, false, false, false, false, false, false] (by kernel_rfl) rfl rfl ⟨((HB.out.cell (World.block_lt_of_cell? w _ hw380_0)).trans hw380_0), ((HB.out.cell (World.block_lt_of_cell? w _ hw380_1)).trans hw380_1), ((HB.out.cell (World.block_lt_of_cell? w _ hw380_2)).trans hw380_2), ((HB.out.cell (World.block_lt_of_cell? w _ hw380_3)).trans hw380_3)⟩ (fun hHeld => ?_); refine with_tabW laws_heldEntryS.tab4 laws_heldEntryS.bits4 (fun HT_ HW_ => ?_)
                  generalize wr.drew = w11 at HB hx380_0 hx380_1 hx380_2 hx380_3 hHeld ⊢
                  refine pure_ (i := 0) (N := some 12) (v := ?_) (a' := ?_) #[true, false, false, false, false, false, false, false] rfl rfl (any_of HT_.out (by kernel_rfl)) (fun _ _ _ h => h) (Or.inl ⟨by rfl, ?_⟩) ?_ ?_
                  rotate_left
                  · intro w'
                    go_simp
                    with_reducible rfl
                  rotate_left
                  · simp only [Act.put, List.setIfInBounds_toArray, List.set_cons_zero, List.set_cons_succ, i64_w, i32_w]
                    rfl
                  refine pure_ (i := 1) (N := some 13) (v := ?_) (a' := ?_) #[true, true, false, false, false, false, false, false] rfl rfl (any_of HT_.out (by kernel_rfl)) (fun _ _ _ h => h) (Or.inl ⟨by rfl, ?_⟩) ?_ ?_
                  rotate_left
                  · intro w'
                    go_simp
                    with_reducible rfl
                  rotate_left
                  · simp only [Act.put, List.setIfInBounds_toArray, List.set_cons_zero, List.set_cons_succ, i64_w, i32_w]
                    rfl
                  refine pure_ (i := 2) (N := some 14) (v := ?_) (a' := ?_) #[true, true, true, false, false, false, false, false] rfl rfl (any_of HT_.out (by kernel_rfl)) (fun _ _ _ h => h) (Or.inl ⟨by rfl, ?_⟩) ?_ ?_
                  rotate_left
                  · intro w'
                    go_simp
                    with_reducible rfl
                  rotate_left
                  · simp only [Act.put, List.setIfInBounds_toArray, List.set_cons_zero, List.set_cons_succ, i64_w, i32_w]
                    rfl
                  refine pure_ (i := 3) (N := some 15) (v := ?_) (a' := ?_) #[true, true, true, true, false, false, false, false] rfl rfl (any_of HT_.out (by kernel_rfl)) (fun _ _ _ h => h) (Or.inl ⟨by rfl, ?_⟩) ?_ ?_
                  rotate_left
                  · intro w'
                    go_simp
                    with_reducible rfl
                  rotate_left
                  · simp only [Act.put, List.setIfInBounds_toArray, List.set_cons_zero, List.set_cons_succ, i64_w, i32_w]
                    rfl
                  refine pure_ (i := 5) (N := some 17) (v := ?_) (a' := ?_) #[true, true, true, true, false, true, false, false] rfl rfl (any_of HT_.out (by kernel_rfl)) (fun _ _ _ h => h) (Or.inl ⟨by rfl, ?_⟩) ?_ ?_
                  rotate_left
                  · intro w'
                    go_simp
                    with_reducible rfl
                  rotate_left
                  · simp only [Act.put, List.setIfInBounds_toArray, List.set_cons_zero, List.set_cons_succ, i64_w, i32_w]
                    rfl
                  refine take_ (i := 4) (N := some 16) (v := ?_) (a' := ?_) #[true, true, true, true, true, true, false, false] rfl rfl (take_ofW HT_.out HW_.out (by kernel_rfl)) (fun _ _ _ h => h) (Or.inl ⟨by rfl, ?_⟩) hHeld ?_ ?_
                  rotate_left
                  · rintro w' ⟨s0, s1, s2, s3⟩
                    go_simp
                    with_reducible rfl
                  rotate_left
                  · simp only [Act.put, List.setIfInBounds_toArray, List.set_cons_zero, List.set_cons_succ, i64_w, i32_w]
                    rfl
                  refine one_ (i := 6) (N := some 18) #[true, true, true, true, true, true, true, false] rfl rfl (one_of HT_.out (by kernel_rfl)) (by decide) (fun K hK => ?_)
                  refine goes_ Tryd.func51 (by kernel_rfl) rfl #[.int .i64 x1_1] (by rfl) rfl rfl (by (try simp only [List.map_toArray, List.map_cons, List.map_nil]); first | done | rfl | (simp only [List.length_drop, List.length_take]; rfl)) ?_
                  with_reducible refine (laws_markText.calls k1 x1_1 t381 _ A5.out).mono ?_
                  rintro e w12 ⟨rfl, hb⟩
                  refine ⟨_, rfl, ?_⟩
                  have n0_ := Aside0.mk (below_step (by repeat (first | (with_reducible first | exact HB.out | apply below_alloc | apply pw_below_drewN | apply below_drew1) | exact HB.out)) hb)
                  clear HB
                  have HB := n0_
                  clear n0_
                  (try clear hb)
                  (try clear hb2)
                  (try clear hk)
                  (try clear hi)
                  refine hK.out _ _ ⟨((HB.out.cell (World.block_lt_of_cell? w _ hw380_0)).trans hw380_0), ((HB.out.cell (World.block_lt_of_cell? w _ hw380_1)).trans hw380_1), ((HB.out.cell (World.block_lt_of_cell? w _ hw380_2)).trans hw380_2), ((HB.out.cell (World.block_lt_of_cell? w _ hw380_3)).trans hw380_3)⟩ (fun hHeld => ?_)
                  clear hK K
                  refine norm_ (a' := ?_) ?_ ?_
                  rotate_left
                  · show Act.put _ (some 18) _ = _
                    simp only [Act.put, List.setIfInBounds_toArray, List.set_cons_zero, List.set_cons_succ, i64_w, i32_w]
                    rfl
                  refine pure_ (i := 7) (N := some 19) (v := ?_) (a' := ?_) #[true, true, true, true, true, true, true, true] rfl rfl (any_of HT_.out (by kernel_rfl)) (fun _ _ _ h => h) (Or.inl ⟨by rfl, ?_⟩) ?_ ?_
                  rotate_left
                  · intro w'
                    go_simp
                    with_reducible rfl
                  rotate_left
                  · simp only [Act.put, List.setIfInBounds_toArray, List.set_cons_zero, List.set_cons_succ, i64_w, i32_w]
                    rfl
                  refine done_ (done_of HT_.out (by kernel_rfl)) ?_
                  have p382 : 0 ≤ (x5_1 : Int) := of_decide_eq_true (by first | (with_reducible assumption) | assumption)
                  have q382 : x5_1 < (l0.length : Int) := of_decide_eq_true (by first | (with_reducible assumption) | assumption)
                  obtain ⟨ad382, e382, hx382_0, hx382_1, hx382_2, hx382_3⟩ := at_T47 HR0.out x5_1 p382 q382
                  obtain rfl : ad380 = ad382 := (by injection e382)
                  replace hx382_0 := (HB.out.cell (World.block_lt_of_cell? w _ hx382_0)).trans hx382_0
                  replace hx382_1 := (HB.out.cell (World.block_lt_of_cell? w _ hx382_1)).trans hx382_1
                  replace hx382_2 := (HB.out.cell (World.block_lt_of_cell? w _ hx382_2)).trans hx382_2
                  replace hx382_3 := (HB.out.cell (World.block_lt_of_cell? w _ hx382_3)).trans hx382_3
                  replace p382 := eq_true p382
                  replace q382 := eq_true q382
                  try go_wp2
                  have n0_ := Aside0.mk (below_drew1 HB.out)
                  clear HB
                  have HB := n0_
                  clear n0_
                  have p383 : 0 ≤ (x5_1 : Int) := of_decide_eq_true (by first | (with_reducible assumption) | assumption)
                  have q383 : x5_1 < (l0.length : Int) := of_decide_eq_true (by first | (with_reducible assumption) | assumption)
                  obtain ⟨ad383, e383, hx383_0, hx383_1, hx383_2, hx383_3⟩ := at_T47 HR0.out x5_1 p383 q383
                  have hw383_3 := hx383_3
                  have hw383_2 := hx383_2
                  have hw383_1 := hx383_1
                  have hw383_0 := hx383_0
                  obtain rfl : ad380 = ad383 := (by injection e383)
                  replace hx383_0 := (HB.out.cell (World.block_lt_of_cell? w _ hx383_0)).trans hx383_0
                  replace hx383_1 := (HB.out.cell (World.block_lt_of_cell? w _ hx383_1)).trans hx383_1
                  replace hx383_2 := (HB.out.cell (World.block_lt_of_cell? w _ hx383_2)).trans hx383_2
                  replace hx383_3 := (HB.out.cell (World.block_lt_of_cell? w _ hx383_3)).trans hx383_3
                  replace p383 := eq_true p383
                  replace q383 := eq_true q383
                  refine start_ (n := 8) (S := fun w' => w'.cell? (ad380.add ((x5_1).toNat * 4)) = some (.string ((rd_T47 l0 x5_1).f0)) ∧ w'.cell? ⟨(ad380.add ((x5_1).toNat * 4)).block, (ad380.add ((x5_1).toNat * 4)).off + 1, none⟩ = some (.int .i64 ((rd_T47 l0 x5_1).f1)) ∧ w'.cell? ⟨(ad380.add ((x5_1).toNat * 4)).block, (ad380.add ((x5_1).toNat * 4)).off + 2, none⟩ = some (.string ((rd_T47 l0 x5_1).f2)) ∧ w'.cell? ⟨(ad380.add ((x5_1).toNat * 4)).block, (ad380.add ((x5_1).toNat * 4)).off + 3, none⟩ = some (.bool ((rd_T47 l0 x5_1).f3))) (ds := []) #[false, false, false, false, false, false, false, false] (by kernel_rfl) rfl rfl ⟨((HB.out.cell (World.block_lt_of_cell? w _ hw383_0)).trans hw383_0), ((HB.out.cell (World.block_lt_of_cell? w _ hw383_1)).trans hw383_1), ((HB.out.cell (World.block_lt_of_cell? w _ hw383_2)).trans hw383_2), ((HB.out.cell (World.block_lt_of_cell? w _ hw383_3)).trans hw383_3)⟩ (fun hHeld => ?_); refine with_tabW laws_heldEntryS.tab10 laws_heldEntryS.bits10 (fun HT_ HW_ => ?_)
                  generalize w12.drew = w13 at HB hx383_0 hx383_1 hx383_2 hx383_3 hHeld ⊢
                  refine pure_ (i := 0) (N := some 31) (v := ?_) (a' := ?_) #[true, false, false, false, false, false, false, false] rfl rfl (any_of HT_.out (by kernel_rfl)) (fun _ _ _ h => h) (Or.inl ⟨by rfl, ?_⟩) ?_ ?_
                  rotate_left
                  · intro w'
                    go_simp
                    with_reducible rfl
                  rotate_left
                  · simp only [Act.put, List.setIfInBounds_toArray, List.set_cons_zero, List.set_cons_succ, i64_w, i32_w]
                    rfl
                  refine pure_ (i := 1) (N := some 32) (v := ?_) (a' := ?_) #[true, true, false, false, false, false, false, false] rfl rfl (any_of HT_.out (by kernel_rfl)) (fun _ _ _ h => h) (Or.inl ⟨by rfl, ?_⟩) ?_ ?_
                  rotate_left
                  · intro w'
                    go_simp
                    with_reducible rfl
                  rotate_left
                  · simp only [Act.put, List.setIfInBounds_toArray, List.set_cons_zero, List.set_cons_succ, i64_w, i32_w]
                    rfl
                  refine pure_ (i := 2) (N := some 33) (v := ?_) (a' := ?_) #[true, true, true, false, false, false, false, false] rfl rfl (any_of HT_.out (by kernel_rfl)) (fun _ _ _ h => h) (Or.inl ⟨by rfl, ?_⟩) ?_ ?_
                  rotate_left
                  · intro w'
                    go_simp
                    with_reducible rfl
                  rotate_left
                  · simp only [Act.put, List.setIfInBounds_toArray, List.set_cons_zero, List.set_cons_succ, i64_w, i32_w]
                    rfl
                  refine pure_ (i := 3) (N := some 34) (v := ?_) (a' := ?_) #[true, true, true, true, false, false, false, false] rfl rfl (any_of HT_.out (by kernel_rfl)) (fun _ _ _ h => h) (Or.inl ⟨by rfl, ?_⟩) ?_ ?_
                  rotate_left
                  · intro w'
                    go_simp
                    with_reducible rfl
                  rotate_left
                  · simp only [Act.put, List.setIfInBounds_toArray, List.set_cons_zero, List.set_cons_succ, i64_w, i32_w]
                    rfl
                  refine pure_ (i := 5) (N := some 36) (v := ?_) (a' := ?_) #[true, true, true, true, false, true, false, false] rfl rfl (any_of HT_.out (by kernel_rfl)) (fun _ _ _ h => h) (Or.inl ⟨by rfl, ?_⟩) ?_ ?_
                  rotate_left
                  · intro w'
                    go_simp
                    with_reducible rfl
                  rotate_left
                  · simp only [Act.put, List.setIfInBounds_toArray, List.set_cons_zero, List.set_cons_succ, i64_w, i32_w]
                    rfl
                  refine take_ (i := 4) (N := some 35) (v := ?_) (a' := ?_) #[true, true, true, true, true, true, false, false] rfl rfl (take_ofW HT_.out HW_.out (by kernel_rfl)) (fun _ _ _ h => h) (Or.inl ⟨by rfl, ?_⟩) hHeld ?_ ?_
                  rotate_left
                  · rintro w' ⟨s0, s1, s2, s3⟩
                    go_simp
                    with_reducible rfl
                  rotate_left
                  · simp only [Act.put, List.setIfInBounds_toArray, List.set_cons_zero, List.set_cons_succ, i64_w, i32_w]
                    rfl
                  refine one_ (i := 6) (N := some 37) #[true, true, true, true, true, true, true, false] rfl rfl (one_of HT_.out (by kernel_rfl)) (by decide) (fun K hK => ?_)
                  refine goes_ Tryd.func51 (by kernel_rfl) rfl #[.int .i64 (wrap64 ((wrap64 (x1_1 + 1)) + 1))] (by rfl) rfl rfl (by (try simp only [List.map_toArray, List.map_cons, List.map_nil]); first | done | rfl | (simp only [List.length_drop, List.length_take]; rfl)) ?_
                  with_reducible refine (laws_markText.calls k1 (wrap64 ((wrap64 (x1_1 + 1)) + 1)) t384 _ A8.out).mono ?_
                  rintro e w14 ⟨rfl, hb⟩
                  refine ⟨_, rfl, ?_⟩
                  have n0_ := Aside0.mk (below_step (by repeat (first | (with_reducible first | exact HB.out | apply below_alloc | apply pw_below_drewN | apply below_drew1) | exact HB.out)) hb)
                  clear HB
                  have HB := n0_
                  clear n0_
                  (try clear hb)
                  (try clear hb2)
                  (try clear hk)
                  (try clear hi)
                  refine hK.out _ _ ⟨((HB.out.cell (World.block_lt_of_cell? w _ hw383_0)).trans hw383_0), ((HB.out.cell (World.block_lt_of_cell? w _ hw383_1)).trans hw383_1), ((HB.out.cell (World.block_lt_of_cell? w _ hw383_2)).trans hw383_2), ((HB.out.cell (World.block_lt_of_cell? w _ hw383_3)).trans hw383_3)⟩ (fun hHeld => ?_)
                  clear hK K
                  refine norm_ (a' := ?_) ?_ ?_
                  rotate_left
                  · show Act.put _ (some 37) _ = _
                    simp only [Act.put, List.setIfInBounds_toArray, List.set_cons_zero, List.set_cons_succ, i64_w, i32_w]
                    rfl
                  refine pure_ (i := 7) (N := some 38) (v := ?_) (a' := ?_) #[true, true, true, true, true, true, true, true] rfl rfl (any_of HT_.out (by kernel_rfl)) (fun _ _ _ h => h) (Or.inl ⟨by rfl, ?_⟩) ?_ ?_
                  rotate_left
                  · intro w'
                    go_simp
                    with_reducible rfl
                  rotate_left
                  · simp only [Act.put, List.setIfInBounds_toArray, List.set_cons_zero, List.set_cons_succ, i64_w, i32_w]
                    rfl
                  refine done_ (done_of HT_.out (by kernel_rfl)) ?_
                  have p385 : 0 ≤ (x5_1 : Int) := of_decide_eq_true (by first | (with_reducible assumption) | assumption)
                  have q385 : x5_1 < (l0.length : Int) := of_decide_eq_true (by first | (with_reducible assumption) | assumption)
                  obtain ⟨ad385, e385, hx385_0, hx385_1, hx385_2, hx385_3⟩ := at_T47 HR0.out x5_1 p385 q385
                  obtain rfl : ad380 = ad385 := (by injection e385)
                  replace hx385_0 := (HB.out.cell (World.block_lt_of_cell? w _ hx385_0)).trans hx385_0
                  replace hx385_1 := (HB.out.cell (World.block_lt_of_cell? w _ hx385_1)).trans hx385_1
                  replace hx385_2 := (HB.out.cell (World.block_lt_of_cell? w _ hx385_2)).trans hx385_2
                  replace hx385_3 := (HB.out.cell (World.block_lt_of_cell? w _ hx385_3)).trans hx385_3
                  replace p385 := eq_true p385
                  replace q385 := eq_true q385
                  try go_wp2
                  go_ret
                  exact ⟨by first | rfl | (simp [errW_none, errW_some] <;> rfl) | (simp [*, errW_none, errW_some] <;> rfl), by repeat (first | (with_reducible first | exact HB.out | apply below_alloc | apply pw_below_drewN | apply below_drew1) | exact HB.out)⟩
                · rw [if_neg c10] at H
                  have c10b0 : (((rd_T47 l0 x5_1).f3) != ((Int.tmod (wrap64 ((wrap64 ((wrap64 (x1_1 + 1)) + 1)) + 1)) 3) == 0)) = false := by simpa using c10
                  (try (have c10b1 : decide (((rd_T47 l0 x5_1).f3) = ((Int.tmod (wrap64 ((wrap64 ((wrap64 (x1_1 + 1)) + 1)) + 1)) 3) == 0)) = true := by simpa using c10))
                  (try (have c10b2 : (((rd_T47 l0 x5_1).f3) == ((Int.tmod (wrap64 ((wrap64 ((wrap64 (x1_1 + 1)) + 1)) + 1)) 3) == 0)) = true := by simpa using c10))
                  clear c10
                  have H' := Aside0.mk H
                  clear H
                  try go_wp2
                  have n0_ := Aside0.mk (below_drew1 HB.out)
                  clear HB
                  have HB := n0_
                  clear n0_
                  have p380 : 0 ≤ (x5_1 : Int) := of_decide_eq_true (by first | (with_reducible assumption) | assumption)
                  have q380 : x5_1 < (l0.length : Int) := of_decide_eq_true (by first | (with_reducible assumption) | assumption)
                  obtain ⟨ad380, e380, hx380_0, hx380_1, hx380_2, hx380_3⟩ := at_T47 HR0.out x5_1 p380 q380
                  have hw380_3 := hx380_3
                  have hw380_2 := hx380_2
                  have hw380_1 := hx380_1
                  have hw380_0 := hx380_0
                  cases e380
                  replace hx380_0 := (HB.out.cell (World.block_lt_of_cell? w _ hx380_0)).trans hx380_0
                  replace hx380_1 := (HB.out.cell (World.block_lt_of_cell? w _ hx380_1)).trans hx380_1
                  replace hx380_2 := (HB.out.cell (World.block_lt_of_cell? w _ hx380_2)).trans hx380_2
                  replace hx380_3 := (HB.out.cell (World.block_lt_of_cell? w _ hx380_3)).trans hx380_3
                  replace p380 := eq_true p380
                  replace q380 := eq_true q380
                  refine start_ (n := 8) (S := fun w' => w'.cell? (ad380.add ((x5_1).toNat * 4)) = some (.string ((rd_T47 l0 x5_1).f0)) ∧ w'.cell? ⟨(ad380.add ((x5_1).toNat * 4)).block, (ad380.add ((x5_1).toNat * 4)).off + 1, none⟩ = some (.int .i64 ((rd_T47 l0 x5_1).f1)) ∧ w'.cell? ⟨(ad380.add ((x5_1).toNat * 4)).block, (ad380.add ((x5_1).toNat * 4)).off + 2, none⟩ = some (.string ((rd_T47 l0 x5_1).f2)) ∧ w'.cell? ⟨(ad380.add ((x5_1).toNat * 4)).block, (ad380.add ((x5_1).toNat * 4)).off + 3, none⟩ = some (.bool ((rd_T47 l0 x5_1).f3))) (ds := []) #[false, false, false, false, false, false, false, false] (by kernel_rfl) rfl rfl ⟨((HB.out.cell (World.block_lt_of_cell? w _ hw380_0)).trans hw380_0), ((HB.out.cell (World.block_lt_of_cell? w _ hw380_1)).trans hw380_1), ((HB.out.cell (World.block_lt_of_cell? w _ hw380_2)).trans hw380_2), ((HB.out.cell (World.block_lt_of_cell? w _ hw380_3)).trans hw380_3)⟩ (fun hHeld => ?_); refine with_tabW laws_heldEntryS.tab4 laws_heldEntryS.bits4 (fun HT_ HW_ => ?_)
                  generalize wr.drew = w15 at HB hx380_0 hx380_1 hx380_2 hx380_3 hHeld ⊢
                  refine pure_ (i := 0) (N := some 12) (v := ?_) (a' := ?_) #[true, false, false, false, false, false, false, false] rfl rfl (any_of HT_.out (by kernel_rfl)) (fun _ _ _ h => h) (Or.inl ⟨by rfl, ?_⟩) ?_ ?_
                  rotate_left
                  · intro w'
                    go_simp
                    with_reducible rfl
                  rotate_left
                  · simp only [Act.put, List.setIfInBounds_toArray, List.set_cons_zero, List.set_cons_succ, i64_w, i32_w]
                    rfl
                  refine pure_ (i := 1) (N := some 13) (v := ?_) (a' := ?_) #[true, true, false, false, false, false, false, false] rfl rfl (any_of HT_.out (by kernel_rfl)) (fun _ _ _ h => h) (Or.inl ⟨by rfl, ?_⟩) ?_ ?_
                  rotate_left
                  · intro w'
                    go_simp
                    with_reducible rfl
                  rotate_left
                  · simp only [Act.put, List.setIfInBounds_toArray, List.set_cons_zero, List.set_cons_succ, i64_w, i32_w]
                    rfl
                  refine pure_ (i := 2) (N := some 14) (v := ?_) (a' := ?_) #[true, true, true, false, false, false, false, false] rfl rfl (any_of HT_.out (by kernel_rfl)) (fun _ _ _ h => h) (Or.inl ⟨by rfl, ?_⟩) ?_ ?_
                  rotate_left
                  · intro w'
                    go_simp
                    with_reducible rfl
                  rotate_left
                  · simp only [Act.put, List.setIfInBounds_toArray, List.set_cons_zero, List.set_cons_succ, i64_w, i32_w]
                    rfl
                  refine pure_ (i := 3) (N := some 15) (v := ?_) (a' := ?_) #[true, true, true, true, false, false, false, false] rfl rfl (any_of HT_.out (by kernel_rfl)) (fun _ _ _ h => h) (Or.inl ⟨by rfl, ?_⟩) ?_ ?_
                  rotate_left
                  · intro w'
                    go_simp
                    with_reducible rfl
                  rotate_left
                  · simp only [Act.put, List.setIfInBounds_toArray, List.set_cons_zero, List.set_cons_succ, i64_w, i32_w]
                    rfl
                  refine pure_ (i := 5) (N := some 17) (v := ?_) (a' := ?_) #[true, true, true, true, false, true, false, false] rfl rfl (any_of HT_.out (by kernel_rfl)) (fun _ _ _ h => h) (Or.inl ⟨by rfl, ?_⟩) ?_ ?_
                  rotate_left
                  · intro w'
                    go_simp
                    with_reducible rfl
                  rotate_left
                  · simp only [Act.put, List.setIfInBounds_toArray, List.set_cons_zero, List.set_cons_succ, i64_w, i32_w]
                    rfl
                  refine take_ (i := 4) (N := some 16) (v := ?_) (a' := ?_) #[true, true, true, true, true, true, false, false] rfl rfl (take_ofW HT_.out HW_.out (by kernel_rfl)) (fun _ _ _ h => h) (Or.inl ⟨by rfl, ?_⟩) hHeld ?_ ?_
                  rotate_left
                  · rintro w' ⟨s0, s1, s2, s3⟩
                    go_simp
                    with_reducible rfl
                  rotate_left
                  · simp only [Act.put, List.setIfInBounds_toArray, List.set_cons_zero, List.set_cons_succ, i64_w, i32_w]
                    rfl
                  refine one_ (i := 6) (N := some 18) #[true, true, true, true, true, true, true, false] rfl rfl (one_of HT_.out (by kernel_rfl)) (by decide) (fun K hK => ?_)
                  refine goes_ Tryd.func51 (by kernel_rfl) rfl #[.int .i64 x1_1] (by rfl) rfl rfl (by (try simp only [List.map_toArray, List.map_cons, List.map_nil]); first | done | rfl | (simp only [List.length_drop, List.length_take]; rfl)) ?_
                  with_reducible refine (laws_markText.calls k1 x1_1 t381 _ A5.out).mono ?_
                  rintro e w16 ⟨rfl, hb⟩
                  refine ⟨_, rfl, ?_⟩
                  have n0_ := Aside0.mk (below_step (by repeat (first | (with_reducible first | exact HB.out | apply below_alloc | apply pw_below_drewN | apply below_drew1) | exact HB.out)) hb)
                  clear HB
                  have HB := n0_
                  clear n0_
                  (try clear hb)
                  (try clear hb2)
                  (try clear hk)
                  (try clear hi)
                  refine hK.out _ _ ⟨((HB.out.cell (World.block_lt_of_cell? w _ hw380_0)).trans hw380_0), ((HB.out.cell (World.block_lt_of_cell? w _ hw380_1)).trans hw380_1), ((HB.out.cell (World.block_lt_of_cell? w _ hw380_2)).trans hw380_2), ((HB.out.cell (World.block_lt_of_cell? w _ hw380_3)).trans hw380_3)⟩ (fun hHeld => ?_)
                  clear hK K
                  refine norm_ (a' := ?_) ?_ ?_
                  rotate_left
                  · show Act.put _ (some 18) _ = _
                    simp only [Act.put, List.setIfInBounds_toArray, List.set_cons_zero, List.set_cons_succ, i64_w, i32_w]
                    rfl
                  refine pure_ (i := 7) (N := some 19) (v := ?_) (a' := ?_) #[true, true, true, true, true, true, true, true] rfl rfl (any_of HT_.out (by kernel_rfl)) (fun _ _ _ h => h) (Or.inl ⟨by rfl, ?_⟩) ?_ ?_
                  rotate_left
                  · intro w'
                    go_simp
                    with_reducible rfl
                  rotate_left
                  · simp only [Act.put, List.setIfInBounds_toArray, List.set_cons_zero, List.set_cons_succ, i64_w, i32_w]
                    rfl
                  refine done_ (done_of HT_.out (by kernel_rfl)) ?_
                  have p382 : 0 ≤ (x5_1 : Int) := of_decide_eq_true (by first | (with_reducible assumption) | assumption)
                  have q382 : x5_1 < (l0.length : Int) := of_decide_eq_true (by first | (with_reducible assumption) | assumption)
                  obtain ⟨ad382, e382, hx382_0, hx382_1, hx382_2, hx382_3⟩ := at_T47 HR0.out x5_1 p382 q382
                  obtain rfl : ad380 = ad382 := (by injection e382)
                  replace hx382_0 := (HB.out.cell (World.block_lt_of_cell? w _ hx382_0)).trans hx382_0
                  replace hx382_1 := (HB.out.cell (World.block_lt_of_cell? w _ hx382_1)).trans hx382_1
                  replace hx382_2 := (HB.out.cell (World.block_lt_of_cell? w _ hx382_2)).trans hx382_2
                  replace hx382_3 := (HB.out.cell (World.block_lt_of_cell? w _ hx382_3)).trans hx382_3
                  replace p382 := eq_true p382
                  replace q382 := eq_true q382
                  try go_wp2
                  have n0_ := Aside0.mk (below_drew1 HB.out)
                  clear HB
                  have HB := n0_
                  clear n0_
                  have p383 : 0 ≤ (x5_1 : Int) := of_decide_eq_true (by first | (with_reducible assumption) | assumption)
                  have q383 : x5_1 < (l0.length : Int) := of_decide_eq_true (by first | (with_reducible assumption) | assumption)
                  obtain ⟨ad383, e383, hx383_0, hx383_1, hx383_2, hx383_3⟩ := at_T47 HR0.out x5_1 p383 q383
                  have hw383_3 := hx383_3
                  have hw383_2 := hx383_2
                  have hw383_1 := hx383_1
                  have hw383_0 := hx383_0
                  obtain rfl : ad380 = ad383 := (by injection e383)
                  replace hx383_0 := (HB.out.cell (World.block_lt_of_cell? w _ hx383_0)).trans hx383_0
                  replace hx383_1 := (HB.out.cell (World.block_lt_of_cell? w _ hx383_1)).trans hx383_1
                  replace hx383_2 := (HB.out.cell (World.block_lt_of_cell? w _ hx383_2)).trans hx383_2
                  replace hx383_3 := (HB.out.cell (World.block_lt_of_cell? w _ hx383_3)).trans hx383_3
                  replace p383 := eq_true p383
                  replace q383 := eq_true q383
                  refine start_ (n := 8) (S := fun w' => w'.cell? (ad380.add ((x5_1).toNat * 4)) = some (.string ((rd_T47 l0 x5_1).f0)) ∧ w'.cell? ⟨(ad380.add ((x5_1).toNat * 4)).block, (ad380.add ((x5_1).toNat * 4)).off + 1, none⟩ = some (.int .i64 ((rd_T47 l0 x5_1).f1)) ∧ w'.cell? ⟨(ad380.add ((x5_1).toNat * 4)).block, (ad380.add ((x5_1).toNat * 4)).off + 2, none⟩ = some (.string ((rd_T47 l0 x5_1).f2)) ∧ w'.cell? ⟨(ad380.add ((x5_1).toNat * 4)).block, (ad380.add ((x5_1).toNat * 4)).off + 3, none⟩ = some (.bool ((rd_T47 l0 x5_1).f3))) (ds := []) #[false, false, false, false, false, false, false, false] (by kernel_rfl) rfl rfl ⟨((HB.out.cell (World.block_lt_of_cell? w _ hw383_0)).trans hw383_0), ((HB.out.cell (World.block_lt_of_cell? w _ hw383_1)).trans hw383_1), ((HB.out.cell (World.block_lt_of_cell? w _ hw383_2)).trans hw383_2), ((HB.out.cell (World.block_lt_of_cell? w _ hw383_3)).trans hw383_3)⟩ (fun hHeld => ?_); refine with_tabW laws_heldEntryS.tab10 laws_heldEntryS.bits10 (fun HT_ HW_ => ?_)
                  generalize w16.drew = w17 at HB hx383_0 hx383_1 hx383_2 hx383_3 hHeld ⊢
                  refine pure_ (i := 0) (N := some 31) (v := ?_) (a' := ?_) #[true, false, false, false, false, false, false, false] rfl rfl (any_of HT_.out (by kernel_rfl)) (fun _ _ _ h => h) (Or.inl ⟨by rfl, ?_⟩) ?_ ?_
                  rotate_left
                  · intro w'
                    go_simp
                    with_reducible rfl
                  rotate_left
                  · simp only [Act.put, List.setIfInBounds_toArray, List.set_cons_zero, List.set_cons_succ, i64_w, i32_w]
                    rfl
                  refine pure_ (i := 1) (N := some 32) (v := ?_) (a' := ?_) #[true, true, false, false, false, false, false, false] rfl rfl (any_of HT_.out (by kernel_rfl)) (fun _ _ _ h => h) (Or.inl ⟨by rfl, ?_⟩) ?_ ?_
                  rotate_left
                  · intro w'
                    go_simp
                    with_reducible rfl
                  rotate_left
                  · simp only [Act.put, List.setIfInBounds_toArray, List.set_cons_zero, List.set_cons_succ, i64_w, i32_w]
                    rfl
                  refine pure_ (i := 2) (N := some 33) (v := ?_) (a' := ?_) #[true, true, true, false, false, false, false, false] rfl rfl (any_of HT_.out (by kernel_rfl)) (fun _ _ _ h => h) (Or.inl ⟨by rfl, ?_⟩) ?_ ?_
                  rotate_left
                  · intro w'
                    go_simp
                    with_reducible rfl
                  rotate_left
                  · simp only [Act.put, List.setIfInBounds_toArray, List.set_cons_zero, List.set_cons_succ, i64_w, i32_w]
                    rfl
                  refine pure_ (i := 3) (N := some 34) (v := ?_) (a' := ?_) #[true, true, true, true, false, false, false, false] rfl rfl (any_of HT_.out (by kernel_rfl)) (fun _ _ _ h => h) (Or.inl ⟨by rfl, ?_⟩) ?_ ?_
                  rotate_left
                  · intro w'
                    go_simp
                    with_reducible rfl
                  rotate_left
                  · simp only [Act.put, List.setIfInBounds_toArray, List.set_cons_zero, List.set_cons_succ, i64_w, i32_w]
                    rfl
                  refine pure_ (i := 5) (N := some 36) (v := ?_) (a' := ?_) #[true, true, true, true, false, true, false, false] rfl rfl (any_of HT_.out (by kernel_rfl)) (fun _ _ _ h => h) (Or.inl ⟨by rfl, ?_⟩) ?_ ?_
                  rotate_left
                  · intro w'
                    go_simp
                    with_reducible rfl
                  rotate_left
                  · simp only [Act.put, List.setIfInBounds_toArray, List.set_cons_zero, List.set_cons_succ, i64_w, i32_w]
                    rfl
                  refine take_ (i := 4) (N := some 35) (v := ?_) (a' := ?_) #[true, true, true, true, true, true, false, false] rfl rfl (take_ofW HT_.out HW_.out (by kernel_rfl)) (fun _ _ _ h => h) (Or.inl ⟨by rfl, ?_⟩) hHeld ?_ ?_
                  rotate_left
                  · rintro w' ⟨s0, s1, s2, s3⟩
                    go_simp
                    with_reducible rfl
                  rotate_left
                  · simp only [Act.put, List.setIfInBounds_toArray, List.set_cons_zero, List.set_cons_succ, i64_w, i32_w]
                    rfl
                  refine one_ (i := 6) (N := some 37) #[true, true, true, true, true, true, true, false] rfl rfl (one_of HT_.out (by kernel_rfl)) (by decide) (fun K hK => ?_)
                  refine goes_ Tryd.func51 (by kernel_rfl) rfl #[.int .i64 (wrap64 ((wrap64 (x1_1 + 1)) + 1))] (by rfl) rfl rfl (by (try simp only [List.map_toArray, List.map_cons, List.map_nil]); first | done | rfl | (simp only [List.length_drop, List.length_take]; rfl)) ?_
                  with_reducible refine (laws_markText.calls k1 (wrap64 ((wrap64 (x1_1 + 1)) + 1)) t384 _ A8.out).mono ?_
                  rintro e w18 ⟨rfl, hb⟩
                  refine ⟨_, rfl, ?_⟩
                  have n0_ := Aside0.mk (below_step (by repeat (first | (with_reducible first | exact HB.out | apply below_alloc | apply pw_below_drewN | apply below_drew1) | exact HB.out)) hb)
                  clear HB
                  have HB := n0_
                  clear n0_
                  (try clear hb)
                  (try clear hb2)
                  (try clear hk)
                  (try clear hi)
                  refine hK.out _ _ ⟨((HB.out.cell (World.block_lt_of_cell? w _ hw383_0)).trans hw383_0), ((HB.out.cell (World.block_lt_of_cell? w _ hw383_1)).trans hw383_1), ((HB.out.cell (World.block_lt_of_cell? w _ hw383_2)).trans hw383_2), ((HB.out.cell (World.block_lt_of_cell? w _ hw383_3)).trans hw383_3)⟩ (fun hHeld => ?_)
                  clear hK K
                  refine norm_ (a' := ?_) ?_ ?_
                  rotate_left
                  · show Act.put _ (some 37) _ = _
                    simp only [Act.put, List.setIfInBounds_toArray, List.set_cons_zero, List.set_cons_succ, i64_w, i32_w]
                    rfl
                  refine pure_ (i := 7) (N := some 38) (v := ?_) (a' := ?_) #[true, true, true, true, true, true, true, true] rfl rfl (any_of HT_.out (by kernel_rfl)) (fun _ _ _ h => h) (Or.inl ⟨by rfl, ?_⟩) ?_ ?_
                  rotate_left
                  · intro w'
                    go_simp
                    with_reducible rfl
                  rotate_left
                  · simp only [Act.put, List.setIfInBounds_toArray, List.set_cons_zero, List.set_cons_succ, i64_w, i32_w]
                    rfl
                  refine done_ (done_of HT_.out (by kernel_rfl)) ?_
                  have p385 : 0 ≤ (x5_1 : Int) := of_decide_eq_true (by first | (with_reducible assumption) | assumption)
                  have q385 : x5_1 < (l0.length : Int) := of_decide_eq_true (by first | (with_reducible assumption) | assumption)
                  obtain ⟨ad385, e385, hx385_0, hx385_1, hx385_2, hx385_3⟩ := at_T47 HR0.out x5_1 p385 q385
                  obtain rfl : ad380 = ad385 := (by injection e385)
                  replace hx385_0 := (HB.out.cell (World.block_lt_of_cell? w _ hx385_0)).trans hx385_0
                  replace hx385_1 := (HB.out.cell (World.block_lt_of_cell? w _ hx385_1)).trans hx385_1
                  replace hx385_2 := (HB.out.cell (World.block_lt_of_cell? w _ hx385_2)).trans hx385_2
                  replace hx385_3 := (HB.out.cell (World.block_lt_of_cell? w _ hx385_3)).trans hx385_3
                  replace p385 := eq_true p385
                  replace q385 := eq_true q385
                  try go_wp2
                  go_roundg k1
                  case measure => have := HK1.out; omega
                  case rel => exact ⟨(wrap64 ((wrap64 ((wrap64 ((wrap64 (x1_1 + 1)) + 1)) + 1)) + 1)), (wrap64 (x5_1 + 1)), (by first | rfl | (simp; done) | (simp [*]; done)), (by first | rfl | (simp; done) | (simp [*]; done)), H', ⟨by have := HK1.out; omega⟩, ⟨by repeat (first | (with_reducible first | exact HB.out | apply below_alloc | apply pw_below_drewN | apply below_drew1) | exact HB.out)⟩⟩
              · rw [if_neg c9] at H
                have c9b0 : (((rd_T47 l0 x5_1).f2).toList == t384.toList) = false := beq_eq_false_iff_ne.mpr c9
                have c9b1 : (((rd_T47 l0 x5_1).f2).toList != t384.toList) = true := bne_iff_ne.mpr c9
                obtain rfl := Option.some.inj H
                try go_wp2
                have n0_ := Aside0.mk (below_drew1 HB.out)
                clear HB
                have HB := n0_
                clear n0_
                have p380 : 0 ≤ (x5_1 : Int) := of_decide_eq_true (by first | (with_reducible assumption) | assumption)
                have q380 : x5_1 < (l0.length : Int) := of_decide_eq_true (by first | (with_reducible assumption) | assumption)
                obtain ⟨ad380, e380, hx380_0, hx380_1, hx380_2, hx380_3⟩ := at_T47 HR0.out x5_1 p380 q380
                have hw380_3 := hx380_3
                have hw380_2 := hx380_2
                have hw380_1 := hx380_1
                have hw380_0 := hx380_0
                cases e380
                replace hx380_0 := (HB.out.cell (World.block_lt_of_cell? w _ hx380_0)).trans hx380_0
                replace hx380_1 := (HB.out.cell (World.block_lt_of_cell? w _ hx380_1)).trans hx380_1
                replace hx380_2 := (HB.out.cell (World.block_lt_of_cell? w _ hx380_2)).trans hx380_2
                replace hx380_3 := (HB.out.cell (World.block_lt_of_cell? w _ hx380_3)).trans hx380_3
                replace p380 := eq_true p380
                replace q380 := eq_true q380
                refine start_ (n := 8) (S := fun w' => w'.cell? (ad380.add ((x5_1).toNat * 4)) = some (.string ((rd_T47 l0 x5_1).f0)) ∧ w'.cell? ⟨(ad380.add ((x5_1).toNat * 4)).block, (ad380.add ((x5_1).toNat * 4)).off + 1, none⟩ = some (.int .i64 ((rd_T47 l0 x5_1).f1)) ∧ w'.cell? ⟨(ad380.add ((x5_1).toNat * 4)).block, (ad380.add ((x5_1).toNat * 4)).off + 2, none⟩ = some (.string ((rd_T47 l0 x5_1).f2)) ∧ w'.cell? ⟨(ad380.add ((x5_1).toNat * 4)).block, (ad380.add ((x5_1).toNat * 4)).off + 3, none⟩ = some (.bool ((rd_T47 l0 x5_1).f3))) (ds := []) #[false, false, false, false, false, false, false, false] (by kernel_rfl) rfl rfl ⟨((HB.out.cell (World.block_lt_of_cell? w _ hw380_0)).trans hw380_0), ((HB.out.cell (World.block_lt_of_cell? w _ hw380_1)).trans hw380_1), ((HB.out.cell (World.block_lt_of_cell? w _ hw380_2)).trans hw380_2), ((HB.out.cell (World.block_lt_of_cell? w _ hw380_3)).trans hw380_3)⟩ (fun hHeld => ?_); refine with_tabW laws_heldEntryS.tab4 laws_heldEntryS.bits4 (fun HT_ HW_ => ?_)
                generalize wr.drew = w19 at HB hx380_0 hx380_1 hx380_2 hx380_3 hHeld ⊢
                refine pure_ (i := 0) (N := some 12) (v := ?_) (a' := ?_) #[true, false, false, false, false, false, false, false] rfl rfl (any_of HT_.out (by kernel_rfl)) (fun _ _ _ h => h) (Or.inl ⟨by rfl, ?_⟩) ?_ ?_
                rotate_left
                · intro w'
                  go_simp
                  with_reducible rfl
                rotate_left
                · simp only [Act.put, List.setIfInBounds_toArray, List.set_cons_zero, List.set_cons_succ, i64_w, i32_w]
                  rfl
                refine pure_ (i := 1) (N := some 13) (v := ?_) (a' := ?_) #[true, true, false, false, false, false, false, false] rfl rfl (any_of HT_.out (by kernel_rfl)) (fun _ _ _ h => h) (Or.inl ⟨by rfl, ?_⟩) ?_ ?_
                rotate_left
                · intro w'
                  go_simp
                  with_reducible rfl
                rotate_left
                · simp only [Act.put, List.setIfInBounds_toArray, List.set_cons_zero, List.set_cons_succ, i64_w, i32_w]
                  rfl
                refine pure_ (i := 2) (N := some 14) (v := ?_) (a' := ?_) #[true, true, true, false, false, false, false, false] rfl rfl (any_of HT_.out (by kernel_rfl)) (fun _ _ _ h => h) (Or.inl ⟨by rfl, ?_⟩) ?_ ?_
                rotate_left
                · intro w'
                  go_simp
                  with_reducible rfl
                rotate_left
                · simp only [Act.put, List.setIfInBounds_toArray, List.set_cons_zero, List.set_cons_succ, i64_w, i32_w]
                  rfl
                refine pure_ (i := 3) (N := some 15) (v := ?_) (a' := ?_) #[true, true, true, true, false, false, false, false] rfl rfl (any_of HT_.out (by kernel_rfl)) (fun _ _ _ h => h) (Or.inl ⟨by rfl, ?_⟩) ?_ ?_
                rotate_left
                · intro w'
                  go_simp
                  with_reducible rfl
                rotate_left
                · simp only [Act.put, List.setIfInBounds_toArray, List.set_cons_zero, List.set_cons_succ, i64_w, i32_w]
                  rfl
                refine pure_ (i := 5) (N := some 17) (v := ?_) (a' := ?_) #[true, true, true, true, false, true, false, false] rfl rfl (any_of HT_.out (by kernel_rfl)) (fun _ _ _ h => h) (Or.inl ⟨by rfl, ?_⟩) ?_ ?_
                rotate_left
                · intro w'
                  go_simp
                  with_reducible rfl
                rotate_left
                · simp only [Act.put, List.setIfInBounds_toArray, List.set_cons_zero, List.set_cons_succ, i64_w, i32_w]
                  rfl
                refine take_ (i := 4) (N := some 16) (v := ?_) (a' := ?_) #[true, true, true, true, true, true, false, false] rfl rfl (take_ofW HT_.out HW_.out (by kernel_rfl)) (fun _ _ _ h => h) (Or.inl ⟨by rfl, ?_⟩) hHeld ?_ ?_
                rotate_left
                · rintro w' ⟨s0, s1, s2, s3⟩
                  go_simp
                  with_reducible rfl
                rotate_left
                · simp only [Act.put, List.setIfInBounds_toArray, List.set_cons_zero, List.set_cons_succ, i64_w, i32_w]
                  rfl
                refine one_ (i := 6) (N := some 18) #[true, true, true, true, true, true, true, false] rfl rfl (one_of HT_.out (by kernel_rfl)) (by decide) (fun K hK => ?_)
                refine goes_ Tryd.func51 (by kernel_rfl) rfl #[.int .i64 x1_1] (by rfl) rfl rfl (by (try simp only [List.map_toArray, List.map_cons, List.map_nil]); first | done | rfl | (simp only [List.length_drop, List.length_take]; rfl)) ?_
                with_reducible refine (laws_markText.calls k1 x1_1 t381 _ A5.out).mono ?_
                rintro e w20 ⟨rfl, hb⟩
                refine ⟨_, rfl, ?_⟩
                have n0_ := Aside0.mk (below_step (by repeat (first | (with_reducible first | exact HB.out | apply below_alloc | apply pw_below_drewN | apply below_drew1) | exact HB.out)) hb)
                clear HB
                have HB := n0_
                clear n0_
                (try clear hb)
                (try clear hb2)
                (try clear hk)
                (try clear hi)
                refine hK.out _ _ ⟨((HB.out.cell (World.block_lt_of_cell? w _ hw380_0)).trans hw380_0), ((HB.out.cell (World.block_lt_of_cell? w _ hw380_1)).trans hw380_1), ((HB.out.cell (World.block_lt_of_cell? w _ hw380_2)).trans hw380_2), ((HB.out.cell (World.block_lt_of_cell? w _ hw380_3)).trans hw380_3)⟩ (fun hHeld => ?_)
                clear hK K
                refine norm_ (a' := ?_) ?_ ?_
                rotate_left
                · show Act.put _ (some 18) _ = _
                  simp only [Act.put, List.setIfInBounds_toArray, List.set_cons_zero, List.set_cons_succ, i64_w, i32_w]
                  rfl
                refine pure_ (i := 7) (N := some 19) (v := ?_) (a' := ?_) #[true, true, true, true, true, true, true, true] rfl rfl (any_of HT_.out (by kernel_rfl)) (fun _ _ _ h => h) (Or.inl ⟨by rfl, ?_⟩) ?_ ?_
                rotate_left
                · intro w'
                  go_simp
                  with_reducible rfl
                rotate_left
                · simp only [Act.put, List.setIfInBounds_toArray, List.set_cons_zero, List.set_cons_succ, i64_w, i32_w]
                  rfl
                refine done_ (done_of HT_.out (by kernel_rfl)) ?_
                have p382 : 0 ≤ (x5_1 : Int) := of_decide_eq_true (by first | (with_reducible assumption) | assumption)
                have q382 : x5_1 < (l0.length : Int) := of_decide_eq_true (by first | (with_reducible assumption) | assumption)
                obtain ⟨ad382, e382, hx382_0, hx382_1, hx382_2, hx382_3⟩ := at_T47 HR0.out x5_1 p382 q382
                obtain rfl : ad380 = ad382 := (by injection e382)
                replace hx382_0 := (HB.out.cell (World.block_lt_of_cell? w _ hx382_0)).trans hx382_0
                replace hx382_1 := (HB.out.cell (World.block_lt_of_cell? w _ hx382_1)).trans hx382_1
                replace hx382_2 := (HB.out.cell (World.block_lt_of_cell? w _ hx382_2)).trans hx382_2
                replace hx382_3 := (HB.out.cell (World.block_lt_of_cell? w _ hx382_3)).trans hx382_3
                replace p382 := eq_true p382
                replace q382 := eq_true q382
                try go_wp2
                have n0_ := Aside0.mk (below_drew1 HB.out)
                clear HB
                have HB := n0_
                clear n0_
                have p383 : 0 ≤ (x5_1 : Int) := of_decide_eq_true (by first | (with_reducible assumption) | assumption)
                have q383 : x5_1 < (l0.length : Int) := of_decide_eq_true (by first | (with_reducible assumption) | assumption)
                obtain ⟨ad383, e383, hx383_0, hx383_1, hx383_2, hx383_3⟩ := at_T47 HR0.out x5_1 p383 q383
                have hw383_3 := hx383_3
                have hw383_2 := hx383_2
                have hw383_1 := hx383_1
                have hw383_0 := hx383_0
                obtain rfl : ad380 = ad383 := (by injection e383)
                replace hx383_0 := (HB.out.cell (World.block_lt_of_cell? w _ hx383_0)).trans hx383_0
                replace hx383_1 := (HB.out.cell (World.block_lt_of_cell? w _ hx383_1)).trans hx383_1
                replace hx383_2 := (HB.out.cell (World.block_lt_of_cell? w _ hx383_2)).trans hx383_2
                replace hx383_3 := (HB.out.cell (World.block_lt_of_cell? w _ hx383_3)).trans hx383_3
                replace p383 := eq_true p383
                replace q383 := eq_true q383
                refine start_ (n := 8) (S := fun w' => w'.cell? (ad380.add ((x5_1).toNat * 4)) = some (.string ((rd_T47 l0 x5_1).f0)) ∧ w'.cell? ⟨(ad380.add ((x5_1).toNat * 4)).block, (ad380.add ((x5_1).toNat * 4)).off + 1, none⟩ = some (.int .i64 ((rd_T47 l0 x5_1).f1)) ∧ w'.cell? ⟨(ad380.add ((x5_1).toNat * 4)).block, (ad380.add ((x5_1).toNat * 4)).off + 2, none⟩ = some (.string ((rd_T47 l0 x5_1).f2)) ∧ w'.cell? ⟨(ad380.add ((x5_1).toNat * 4)).block, (ad380.add ((x5_1).toNat * 4)).off + 3, none⟩ = some (.bool ((rd_T47 l0 x5_1).f3))) (ds := []) #[false, false, false, false, false, false, false, false] (by kernel_rfl) rfl rfl ⟨((HB.out.cell (World.block_lt_of_cell? w _ hw383_0)).trans hw383_0), ((HB.out.cell (World.block_lt_of_cell? w _ hw383_1)).trans hw383_1), ((HB.out.cell (World.block_lt_of_cell? w _ hw383_2)).trans hw383_2), ((HB.out.cell (World.block_lt_of_cell? w _ hw383_3)).trans hw383_3)⟩ (fun hHeld => ?_); refine with_tabW laws_heldEntryS.tab10 laws_heldEntryS.bits10 (fun HT_ HW_ => ?_)
                generalize w20.drew = w21 at HB hx383_0 hx383_1 hx383_2 hx383_3 hHeld ⊢
                refine pure_ (i := 0) (N := some 31) (v := ?_) (a' := ?_) #[true, false, false, false, false, false, false, false] rfl rfl (any_of HT_.out (by kernel_rfl)) (fun _ _ _ h => h) (Or.inl ⟨by rfl, ?_⟩) ?_ ?_
                rotate_left
                · intro w'
                  go_simp
                  with_reducible rfl
                rotate_left
                · simp only [Act.put, List.setIfInBounds_toArray, List.set_cons_zero, List.set_cons_succ, i64_w, i32_w]
                  rfl
                refine pure_ (i := 1) (N := some 32) (v := ?_) (a' := ?_) #[true, true, false, false, false, false, false, false] rfl rfl (any_of HT_.out (by kernel_rfl)) (fun _ _ _ h => h) (Or.inl ⟨by rfl, ?_⟩) ?_ ?_
                rotate_left
                · intro w'
                  go_simp
                  with_reducible rfl
                rotate_left
                · simp only [Act.put, List.setIfInBounds_toArray, List.set_cons_zero, List.set_cons_succ, i64_w, i32_w]
                  rfl
                refine pure_ (i := 2) (N := some 33) (v := ?_) (a' := ?_) #[true, true, true, false, false, false, false, false] rfl rfl (any_of HT_.out (by kernel_rfl)) (fun _ _ _ h => h) (Or.inl ⟨by rfl, ?_⟩) ?_ ?_
                rotate_left
                · intro w'
                  go_simp
                  with_reducible rfl
                rotate_left
                · simp only [Act.put, List.setIfInBounds_toArray, List.set_cons_zero, List.set_cons_succ, i64_w, i32_w]
                  rfl
                refine pure_ (i := 3) (N := some 34) (v := ?_) (a' := ?_) #[true, true, true, true, false, false, false, false] rfl rfl (any_of HT_.out (by kernel_rfl)) (fun _ _ _ h => h) (Or.inl ⟨by rfl, ?_⟩) ?_ ?_
                rotate_left
                · intro w'
                  go_simp
                  with_reducible rfl
                rotate_left
                · simp only [Act.put, List.setIfInBounds_toArray, List.set_cons_zero, List.set_cons_succ, i64_w, i32_w]
                  rfl
                refine pure_ (i := 5) (N := some 36) (v := ?_) (a' := ?_) #[true, true, true, true, false, true, false, false] rfl rfl (any_of HT_.out (by kernel_rfl)) (fun _ _ _ h => h) (Or.inl ⟨by rfl, ?_⟩) ?_ ?_
                rotate_left
                · intro w'
                  go_simp
                  with_reducible rfl
                rotate_left
                · simp only [Act.put, List.setIfInBounds_toArray, List.set_cons_zero, List.set_cons_succ, i64_w, i32_w]
                  rfl
                refine take_ (i := 4) (N := some 35) (v := ?_) (a' := ?_) #[true, true, true, true, true, true, false, false] rfl rfl (take_ofW HT_.out HW_.out (by kernel_rfl)) (fun _ _ _ h => h) (Or.inl ⟨by rfl, ?_⟩) hHeld ?_ ?_
                rotate_left
                · rintro w' ⟨s0, s1, s2, s3⟩
                  go_simp
                  with_reducible rfl
                rotate_left
                · simp only [Act.put, List.setIfInBounds_toArray, List.set_cons_zero, List.set_cons_succ, i64_w, i32_w]
                  rfl
                refine one_ (i := 6) (N := some 37) #[true, true, true, true, true, true, true, false] rfl rfl (one_of HT_.out (by kernel_rfl)) (by decide) (fun K hK => ?_)
                refine goes_ Tryd.func51 (by kernel_rfl) rfl #[.int .i64 (wrap64 ((wrap64 (x1_1 + 1)) + 1))] (by rfl) rfl rfl (by (try simp only [List.map_toArray, List.map_cons, List.map_nil]); first | done | rfl | (simp only [List.length_drop, List.length_take]; rfl)) ?_
                with_reducible refine (laws_markText.calls k1 (wrap64 ((wrap64 (x1_1 + 1)) + 1)) t384 _ A8.out).mono ?_
                rintro e w22 ⟨rfl, hb⟩
                refine ⟨_, rfl, ?_⟩
                have n0_ := Aside0.mk (below_step (by repeat (first | (with_reducible first | exact HB.out | apply below_alloc | apply pw_below_drewN | apply below_drew1) | exact HB.out)) hb)
                clear HB
                have HB := n0_
                clear n0_
                (try clear hb)
                (try clear hb2)
                (try clear hk)
                (try clear hi)
                refine hK.out _ _ ⟨((HB.out.cell (World.block_lt_of_cell? w _ hw383_0)).trans hw383_0), ((HB.out.cell (World.block_lt_of_cell? w _ hw383_1)).trans hw383_1), ((HB.out.cell (World.block_lt_of_cell? w _ hw383_2)).trans hw383_2), ((HB.out.cell (World.block_lt_of_cell? w _ hw383_3)).trans hw383_3)⟩ (fun hHeld => ?_)
                clear hK K
                refine norm_ (a' := ?_) ?_ ?_
                rotate_left
                · show Act.put _ (some 37) _ = _
                  simp only [Act.put, List.setIfInBounds_toArray, List.set_cons_zero, List.set_cons_succ, i64_w, i32_w]
                  rfl
                refine pure_ (i := 7) (N := some 38) (v := ?_) (a' := ?_) #[true, true, true, true, true, true, true, true] rfl rfl (any_of HT_.out (by kernel_rfl)) (fun _ _ _ h => h) (Or.inl ⟨by rfl, ?_⟩) ?_ ?_
                rotate_left
                · intro w'
                  go_simp
                  with_reducible rfl
                rotate_left
                · simp only [Act.put, List.setIfInBounds_toArray, List.set_cons_zero, List.set_cons_succ, i64_w, i32_w]
                  rfl
                refine done_ (done_of HT_.out (by kernel_rfl)) ?_
                try go_wp2
                go_ret
                exact ⟨by first | rfl | (simp [errW_none, errW_some] <;> rfl) | (simp [*, errW_none, errW_some] <;> rfl), by repeat (first | (with_reducible first | exact HB.out | apply below_alloc | apply pw_below_drewN | apply below_drew1) | exact HB.out)⟩
            · rw [if_neg c7] at H
              have c7b0 : (((rd_T47 l0 x5_1).f1) == (wrap64 (x1_1 + 1))) = false := beq_eq_false_iff_ne.mpr c7
              have c7b1 : (((rd_T47 l0 x5_1).f1) != (wrap64 (x1_1 + 1))) = true := bne_iff_ne.mpr c7
              obtain rfl := Option.some.inj H
              try go_wp2
              have n0_ := Aside0.mk (below_drew1 HB.out)
              clear HB
              have HB := n0_
              clear n0_
              have p380 : 0 ≤ (x5_1 : Int) := of_decide_eq_true (by first | (with_reducible assumption) | assumption)
              have q380 : x5_1 < (l0.length : Int) := of_decide_eq_true (by first | (with_reducible assumption) | assumption)
              obtain ⟨ad380, e380, hx380_0, hx380_1, hx380_2, hx380_3⟩ := at_T47 HR0.out x5_1 p380 q380
              have hw380_3 := hx380_3
              have hw380_2 := hx380_2
              have hw380_1 := hx380_1
              have hw380_0 := hx380_0
              cases e380
              replace hx380_0 := (HB.out.cell (World.block_lt_of_cell? w _ hx380_0)).trans hx380_0
              replace hx380_1 := (HB.out.cell (World.block_lt_of_cell? w _ hx380_1)).trans hx380_1
              replace hx380_2 := (HB.out.cell (World.block_lt_of_cell? w _ hx380_2)).trans hx380_2
              replace hx380_3 := (HB.out.cell (World.block_lt_of_cell? w _ hx380_3)).trans hx380_3
              replace p380 := eq_true p380
              replace q380 := eq_true q380
              refine start_ (n := 8) (S := fun w' => w'.cell? (ad380.add ((x5_1).toNat * 4)) = some (.string ((rd_T47 l0 x5_1).f0)) ∧ w'.cell? ⟨(ad380.add ((x5_1).toNat * 4)).block, (ad380.add ((x5_1).toNat * 4)).off + 1, none⟩ = some (.int .i64 ((rd_T47 l0 x5_1).f1)) ∧ w'.cell? ⟨(ad380.add ((x5_1).toNat * 4)).block, (ad380.add ((x5_1).toNat * 4)).off + 2, none⟩ = some (.string ((rd_T47 l0 x5_1).f2)) ∧ w'.cell? ⟨(ad380.add ((x5_1).toNat * 4)).block, (ad380.add ((x5_1).toNat * 4)).off + 3, none⟩ = some (.bool ((rd_T47 l0 x5_1).f3))) (ds := []) #[false, false, false, false, false, false, false, false] (by kernel_rfl) rfl rfl ⟨((HB.out.cell (World.block_lt_of_cell? w _ hw380_0)).trans hw380_0), ((HB.out.cell (World.block_lt_of_cell? w _ hw380_1)).trans hw380_1), ((HB.out.cell (World.block_lt_of_cell? w _ hw380_2)).trans hw380_2), ((HB.out.cell (World.block_lt_of_cell? w _ hw380_3)).trans hw380_3)⟩ (fun hHeld => ?_); refine with_tabW laws_heldEntryS.tab4 laws_heldEntryS.bits4 (fun HT_ HW_ => ?_)
              generalize wr.drew = w23 at HB hx380_0 hx380_1 hx380_2 hx380_3 hHeld ⊢
              refine pure_ (i := 0) (N := some 12) (v := ?_) (a' := ?_) #[true, false, false, false, false, false, false, false] rfl rfl (any_of HT_.out (by kernel_rfl)) (fun _ _ _ h => h) (Or.inl ⟨by rfl, ?_⟩) ?_ ?_
              rotate_left
              · intro w'
                go_simp
                with_reducible rfl
              rotate_left
              · simp only [Act.put, List.setIfInBounds_toArray, List.set_cons_zero, List.set_cons_succ, i64_w, i32_w]
                rfl
              refine pure_ (i := 1) (N := some 13) (v := ?_) (a' := ?_) #[true, true, false, false, false, false, false, false] rfl rfl (any_of HT_.out (by kernel_rfl)) (fun _ _ _ h => h) (Or.inl ⟨by rfl, ?_⟩) ?_ ?_
              rotate_left
              · intro w'
                go_simp
                with_reducible rfl
              rotate_left
              · simp only [Act.put, List.setIfInBounds_toArray, List.set_cons_zero, List.set_cons_succ, i64_w, i32_w]
                rfl
              refine pure_ (i := 2) (N := some 14) (v := ?_) (a' := ?_) #[true, true, true, false, false, false, false, false] rfl rfl (any_of HT_.out (by kernel_rfl)) (fun _ _ _ h => h) (Or.inl ⟨by rfl, ?_⟩) ?_ ?_
              rotate_left
              · intro w'
                go_simp
                with_reducible rfl
              rotate_left
              · simp only [Act.put, List.setIfInBounds_toArray, List.set_cons_zero, List.set_cons_succ, i64_w, i32_w]
                rfl
              refine pure_ (i := 3) (N := some 15) (v := ?_) (a' := ?_) #[true, true, true, true, false, false, false, false] rfl rfl (any_of HT_.out (by kernel_rfl)) (fun _ _ _ h => h) (Or.inl ⟨by rfl, ?_⟩) ?_ ?_
              rotate_left
              · intro w'
                go_simp
                with_reducible rfl
              rotate_left
              · simp only [Act.put, List.setIfInBounds_toArray, List.set_cons_zero, List.set_cons_succ, i64_w, i32_w]
                rfl
              refine pure_ (i := 5) (N := some 17) (v := ?_) (a' := ?_) #[true, true, true, true, false, true, false, false] rfl rfl (any_of HT_.out (by kernel_rfl)) (fun _ _ _ h => h) (Or.inl ⟨by rfl, ?_⟩) ?_ ?_
              rotate_left
              · intro w'
                go_simp
                with_reducible rfl
              rotate_left
              · simp only [Act.put, List.setIfInBounds_toArray, List.set_cons_zero, List.set_cons_succ, i64_w, i32_w]
                rfl
              refine take_ (i := 4) (N := some 16) (v := ?_) (a' := ?_) #[true, true, true, true, true, true, false, false] rfl rfl (take_ofW HT_.out HW_.out (by kernel_rfl)) (fun _ _ _ h => h) (Or.inl ⟨by rfl, ?_⟩) hHeld ?_ ?_
              rotate_left
              · rintro w' ⟨s0, s1, s2, s3⟩
                go_simp
                with_reducible rfl
              rotate_left
              · simp only [Act.put, List.setIfInBounds_toArray, List.set_cons_zero, List.set_cons_succ, i64_w, i32_w]
                rfl
              refine one_ (i := 6) (N := some 18) #[true, true, true, true, true, true, true, false] rfl rfl (one_of HT_.out (by kernel_rfl)) (by decide) (fun K hK => ?_)
              refine goes_ Tryd.func51 (by kernel_rfl) rfl #[.int .i64 x1_1] (by rfl) rfl rfl (by (try simp only [List.map_toArray, List.map_cons, List.map_nil]); first | done | rfl | (simp only [List.length_drop, List.length_take]; rfl)) ?_
              with_reducible refine (laws_markText.calls k1 x1_1 t381 _ A5.out).mono ?_
              rintro e w24 ⟨rfl, hb⟩
              refine ⟨_, rfl, ?_⟩
              have n0_ := Aside0.mk (below_step (by repeat (first | (with_reducible first | exact HB.out | apply below_alloc | apply pw_below_drewN | apply below_drew1) | exact HB.out)) hb)
              clear HB
              have HB := n0_
              clear n0_
              (try clear hb)
              (try clear hb2)
              (try clear hk)
              (try clear hi)
              refine hK.out _ _ ⟨((HB.out.cell (World.block_lt_of_cell? w _ hw380_0)).trans hw380_0), ((HB.out.cell (World.block_lt_of_cell? w _ hw380_1)).trans hw380_1), ((HB.out.cell (World.block_lt_of_cell? w _ hw380_2)).trans hw380_2), ((HB.out.cell (World.block_lt_of_cell? w _ hw380_3)).trans hw380_3)⟩ (fun hHeld => ?_)
              clear hK K
              refine norm_ (a' := ?_) ?_ ?_
              rotate_left
              · show Act.put _ (some 18) _ = _
                simp only [Act.put, List.setIfInBounds_toArray, List.set_cons_zero, List.set_cons_succ, i64_w, i32_w]
                rfl
              refine pure_ (i := 7) (N := some 19) (v := ?_) (a' := ?_) #[true, true, true, true, true, true, true, true] rfl rfl (any_of HT_.out (by kernel_rfl)) (fun _ _ _ h => h) (Or.inl ⟨by rfl, ?_⟩) ?_ ?_
              rotate_left
              · intro w'
                go_simp
                with_reducible rfl
              rotate_left
              · simp only [Act.put, List.setIfInBounds_toArray, List.set_cons_zero, List.set_cons_succ, i64_w, i32_w]
                rfl
              refine done_ (done_of HT_.out (by kernel_rfl)) ?_
              have p382 : 0 ≤ (x5_1 : Int) := of_decide_eq_true (by first | (with_reducible assumption) | assumption)
              have q382 : x5_1 < (l0.length : Int) := of_decide_eq_true (by first | (with_reducible assumption) | assumption)
              obtain ⟨ad382, e382, hx382_0, hx382_1, hx382_2, hx382_3⟩ := at_T47 HR0.out x5_1 p382 q382
              obtain rfl : ad380 = ad382 := (by injection e382)
              replace hx382_0 := (HB.out.cell (World.block_lt_of_cell? w _ hx382_0)).trans hx382_0
              replace hx382_1 := (HB.out.cell (World.block_lt_of_cell? w _ hx382_1)).trans hx382_1
              replace hx382_2 := (HB.out.cell (World.block_lt_of_cell? w _ hx382_2)).trans hx382_2
              replace hx382_3 := (HB.out.cell (World.block_lt_of_cell? w _ hx382_3)).trans hx382_3
              replace p382 := eq_true p382
              replace q382 := eq_true q382
              try go_wp2
              go_ret
              exact ⟨by first | rfl | (simp [errW_none, errW_some] <;> rfl) | (simp [*, errW_none, errW_some] <;> rfl), by repeat (first | (with_reducible first | exact HB.out | apply below_alloc | apply pw_below_drewN | apply below_drew1) | exact HB.out)⟩
          · rw [if_neg c6] at H
            have c6b0 : (((rd_T47 l0 x5_1).f0).toList == t381.toList) = false := beq_eq_false_iff_ne.mpr c6
            have c6b1 : (((rd_T47 l0 x5_1).f0).toList != t381.toList) = true := bne_iff_ne.mpr c6
            obtain rfl := Option.some.inj H
            try go_wp2
            have n0_ := Aside0.mk (below_drew1 HB.out)
            clear HB
            have HB := n0_
            clear n0_
            have p380 : 0 ≤ (x5_1 : Int) := of_decide_eq_true (by first | (with_reducible assumption) | assumption)
            have q380 : x5_1 < (l0.length : Int) := of_decide_eq_true (by first | (with_reducible assumption) | assumption)
            obtain ⟨ad380, e380, hx380_0, hx380_1, hx380_2, hx380_3⟩ := at_T47 HR0.out x5_1 p380 q380
            have hw380_3 := hx380_3
            have hw380_2 := hx380_2
            have hw380_1 := hx380_1
            have hw380_0 := hx380_0
            cases e380
            replace hx380_0 := (HB.out.cell (World.block_lt_of_cell? w _ hx380_0)).trans hx380_0
            replace hx380_1 := (HB.out.cell (World.block_lt_of_cell? w _ hx380_1)).trans hx380_1
            replace hx380_2 := (HB.out.cell (World.block_lt_of_cell? w _ hx380_2)).trans hx380_2
            replace hx380_3 := (HB.out.cell (World.block_lt_of_cell? w _ hx380_3)).trans hx380_3
            replace p380 := eq_true p380
            replace q380 := eq_true q380
            refine start_ (n := 8) (S := fun w' => w'.cell? (ad380.add ((x5_1).toNat * 4)) = some (.string ((rd_T47 l0 x5_1).f0)) ∧ w'.cell? ⟨(ad380.add ((x5_1).toNat * 4)).block, (ad380.add ((x5_1).toNat * 4)).off + 1, none⟩ = some (.int .i64 ((rd_T47 l0 x5_1).f1)) ∧ w'.cell? ⟨(ad380.add ((x5_1).toNat * 4)).block, (ad380.add ((x5_1).toNat * 4)).off + 2, none⟩ = some (.string ((rd_T47 l0 x5_1).f2)) ∧ w'.cell? ⟨(ad380.add ((x5_1).toNat * 4)).block, (ad380.add ((x5_1).toNat * 4)).off + 3, none⟩ = some (.bool ((rd_T47 l0 x5_1).f3))) (ds := []) #[false, false, false, false, false, false, false, false] (by kernel_rfl) rfl rfl ⟨((HB.out.cell (World.block_lt_of_cell? w _ hw380_0)).trans hw380_0), ((HB.out.cell (World.block_lt_of_cell? w _ hw380_1)).trans hw380_1), ((HB.out.cell (World.block_lt_of_cell? w _ hw380_2)).trans hw380_2), ((HB.out.cell (World.block_lt_of_cell? w _ hw380_3)).trans hw380_3)⟩ (fun hHeld => ?_); refine with_tabW laws_heldEntryS.tab4 laws_heldEntryS.bits4 (fun HT_ HW_ => ?_)
            generalize wr.drew = w25 at HB hx380_0 hx380_1 hx380_2 hx380_3 hHeld ⊢
            refine pure_ (i := 0) (N := some 12) (v := ?_) (a' := ?_) #[true, false, false, false, false, false, false, false] rfl rfl (any_of HT_.out (by kernel_rfl)) (fun _ _ _ h => h) (Or.inl ⟨by rfl, ?_⟩) ?_ ?_
            rotate_left
            · intro w'
              go_simp
              with_reducible rfl
            rotate_left
            · simp only [Act.put, List.setIfInBounds_toArray, List.set_cons_zero, List.set_cons_succ, i64_w, i32_w]
              rfl
            refine pure_ (i := 1) (N := some 13) (v := ?_) (a' := ?_) #[true, true, false, false, false, false, false, false] rfl rfl (any_of HT_.out (by kernel_rfl)) (fun _ _ _ h => h) (Or.inl ⟨by rfl, ?_⟩) ?_ ?_
            rotate_left
            · intro w'
              go_simp
              with_reducible rfl
            rotate_left
            · simp only [Act.put, List.setIfInBounds_toArray, List.set_cons_zero, List.set_cons_succ, i64_w, i32_w]
              rfl
            refine pure_ (i := 2) (N := some 14) (v := ?_) (a' := ?_) #[true, true, true, false, false, false, false, false] rfl rfl (any_of HT_.out (by kernel_rfl)) (fun _ _ _ h => h) (Or.inl ⟨by rfl, ?_⟩) ?_ ?_
            rotate_left
            · intro w'
              go_simp
              with_reducible rfl
            rotate_left
            · simp only [Act.put, List.setIfInBounds_toArray, List.set_cons_zero, List.set_cons_succ, i64_w, i32_w]
              rfl
            refine pure_ (i := 3) (N := some 15) (v := ?_) (a' := ?_) #[true, true, true, true, false, false, false, false] rfl rfl (any_of HT_.out (by kernel_rfl)) (fun _ _ _ h => h) (Or.inl ⟨by rfl, ?_⟩) ?_ ?_
            rotate_left
            · intro w'
              go_simp
              with_reducible rfl
            rotate_left
            · simp only [Act.put, List.setIfInBounds_toArray, List.set_cons_zero, List.set_cons_succ, i64_w, i32_w]
              rfl
            refine pure_ (i := 5) (N := some 17) (v := ?_) (a' := ?_) #[true, true, true, true, false, true, false, false] rfl rfl (any_of HT_.out (by kernel_rfl)) (fun _ _ _ h => h) (Or.inl ⟨by rfl, ?_⟩) ?_ ?_
            rotate_left
            · intro w'
              go_simp
              with_reducible rfl
            rotate_left
            · simp only [Act.put, List.setIfInBounds_toArray, List.set_cons_zero, List.set_cons_succ, i64_w, i32_w]
              rfl
            refine take_ (i := 4) (N := some 16) (v := ?_) (a' := ?_) #[true, true, true, true, true, true, false, false] rfl rfl (take_ofW HT_.out HW_.out (by kernel_rfl)) (fun _ _ _ h => h) (Or.inl ⟨by rfl, ?_⟩) hHeld ?_ ?_
            rotate_left
            · rintro w' ⟨s0, s1, s2, s3⟩
              go_simp
              with_reducible rfl
            rotate_left
            · simp only [Act.put, List.setIfInBounds_toArray, List.set_cons_zero, List.set_cons_succ, i64_w, i32_w]
              rfl
            refine one_ (i := 6) (N := some 18) #[true, true, true, true, true, true, true, false] rfl rfl (one_of HT_.out (by kernel_rfl)) (by decide) (fun K hK => ?_)
            refine goes_ Tryd.func51 (by kernel_rfl) rfl #[.int .i64 x1_1] (by rfl) rfl rfl (by (try simp only [List.map_toArray, List.map_cons, List.map_nil]); first | done | rfl | (simp only [List.length_drop, List.length_take]; rfl)) ?_
            with_reducible refine (laws_markText.calls k1 x1_1 t381 _ A5.out).mono ?_
            rintro e w26 ⟨rfl, hb⟩
            refine ⟨_, rfl, ?_⟩
            have n0_ := Aside0.mk (below_step (by repeat (first | (with_reducible first | exact HB.out | apply below_alloc | apply pw_below_drewN | apply below_drew1) | exact HB.out)) hb)
            clear HB
            have HB := n0_
            clear n0_
            (try clear hb)
            (try clear hb2)
            (try clear hk)
            (try clear hi)
            refine hK.out _ _ ⟨((HB.out.cell (World.block_lt_of_cell? w _ hw380_0)).trans hw380_0), ((HB.out.cell (World.block_lt_of_cell? w _ hw380_1)).trans hw380_1), ((HB.out.cell (World.block_lt_of_cell? w _ hw380_2)).trans hw380_2), ((HB.out.cell (World.block_lt_of_cell? w _ hw380_3)).trans hw380_3)⟩ (fun hHeld => ?_)
            clear hK K
            refine norm_ (a' := ?_) ?_ ?_
            rotate_left
            · show Act.put _ (some 18) _ = _
              simp only [Act.put, List.setIfInBounds_toArray, List.set_cons_zero, List.set_cons_succ, i64_w, i32_w]
              rfl
            refine pure_ (i := 7) (N := some 19) (v := ?_) (a' := ?_) #[true, true, true, true, true, true, true, true] rfl rfl (any_of HT_.out (by kernel_rfl)) (fun _ _ _ h => h) (Or.inl ⟨by rfl, ?_⟩) ?_ ?_
            rotate_left
            · intro w'
              go_simp
              with_reducible rfl
            rotate_left
            · simp only [Act.put, List.setIfInBounds_toArray, List.set_cons_zero, List.set_cons_succ, i64_w, i32_w]
              rfl
            refine done_ (done_of HT_.out (by kernel_rfl)) ?_
            try go_wp2
            go_ret
            exact ⟨by first | rfl | (simp [errW_none, errW_some] <;> rfl) | (simp [*, errW_none, errW_some] <;> rfl), by repeat (first | (with_reducible first | exact HB.out | apply below_alloc | apply pw_below_drewN | apply below_drew1) | exact HB.out)⟩
        · rw [if_neg c4] at H
          exact absurd H (by simp)
      · rw [if_neg c3] at H
        have c3b0 : decide (x5_1 < (l0.length : Int)) = false := decide_eq_false c3
        clear c3
        obtain rfl := Option.some.inj H
        go_wp2
        go_ret
        exact ⟨by first | rfl | (simp [errW_none, errW_some] <;> rfl) | (simp [*, errW_none, errW_some] <;> rfl), by repeat (first | (with_reducible first | exact HB.out | apply below_alloc | apply pw_below_drewN | apply below_drew1) | exact HB.out)⟩
end Go.Proofs.YtgghefjkkidaoaaDoor.P
end

section
namespace Go.Proofs.YtgghefjkkidaoaaDoor.P
open Go.RowKit Go.Proofs.YtgghefjkkidaoaaDoorW.PrintWords Go.Proofs.YtgghefjkkidaoaaDoorW.PrintLast Go.Proofs.YtgghefjkkidaoaaDoorW.PrintMore Go.Proofs.YtgghefjkkidaoaaDoorM
attribute [local go_sem] max2_int min2_int max_two min_two max_three min_three max_four min_four   -- for this text's walks alone
set_option linter.unusedVariables false
set_option linter.unusedSimpArgs false
def spec_l10Under.f (a0 : ByteArray) (a1 : ByteArray) : Option (Bool) := if (a0.size : Int) > (a1.size : Int) then (if 0 ≤ (wrap64 ((a1.size : Int) + 1)) then (if (wrap64 ((a1.size : Int) + 1)) ≤ (a0.size : Int) then (if a1.size + 1 ≤ 9223372036854775807 then (some ((a0.extract 0 ((wrap64 ((a1.size : Int) + 1)) : Int).toNat).toList == (a1 ++ (⟨#[47]⟩ : ByteArray)).toList)) else (none)) else (none)) else (none)) else (some false)
set_option maxHeartbeats 8000000 in
set_option maxRecDepth 100000 in
theorem spec_l10Under.calls (a0 : ByteArray) (a1 : ByteArray) (r : Bool) (w : World) (h : spec_l10Under.f a0 a1 = some r) :
    Calls Tryd.prog 85 #[.string a0, .string a1] w fun e w' => e = .returned (.bool r) ∧ Drawn0 w w' := by
  have H : (if (a0.size : Int) > (a1.size : Int) then (if 0 ≤ (wrap64 ((a1.size : Int) + 1)) then (if (wrap64 ((a1.size : Int) + 1)) ≤ (a0.size : Int) then (if a1.size + 1 ≤ 9223372036854775807 then (some ((a0.extract 0 ((wrap64 ((a1.size : Int) + 1)) : Int).toNat).toList == (a1 ++ (⟨#[47]⟩ : ByteArray)).toList)) else (none)) else (none)) else (none)) else (some false)) = some r := h
  clear h
  by_cases c3 : (a0.size : Int) > (a1.size : Int)
  · rw [if_pos c3] at H
    have c3b0 : decide ((a1.size : Int) < (a0.size : Int)) = true := decide_eq_true c3
    have c3b1 : decide (a1.size < a0.size) = true := decide_eq_true (Int.ofNat_lt.mp c3)
    clear c3
    obtain ⟨ji4, hji4⟩ : ∃ j_ : Int, (wrap64 ((a1.size : Int) + 1)) = j_ := ⟨_, rfl⟩
    replace H : (if 0 ≤ (ji4) then (if (ji4) ≤ (a0.size : Int) then (if a1.size + 1 ≤ 9223372036854775807 then (some ((a0.extract 0 ((ji4) : Int).toNat).toList == (a1 ++ (⟨#[47]⟩ : ByteArray)).toList)) else (none)) else (none)) else (none)) = some r := by first | (rw [hji4] at H; exact H) | (simp only [hji4] at H ⊢; exact H)
    have hji4w : (IntKind.i64.wrap ((a1.size : Int) + 1)) = ji4 := (i64_w _).trans hji4
    by_cases c5 : 0 ≤ (ji4)
    · rw [if_pos c5] at H
      have c5b0 := eq_true c5
      have c5b1 : decide (0 ≤ (ji4)) = true := decide_eq_true c5
      clear c5
      by_cases c6 : (ji4) ≤ (a0.size : Int)
      · rw [if_pos c6] at H
        have c6b0 := eq_true c6
        have c6b1 : decide ((ji4) ≤ (a0.size : Int)) = true := decide_eq_true c6
        clear c6
        by_cases c7 : a1.size + 1 ≤ 9223372036854775807
        · rw [if_pos c7] at H
          have c7b0 := eq_true c7
          have c7b1 : decide (a1.size + 1 ≤ 9223372036854775807) = true := decide_eq_true c7
          try have c7b2 : (9223372036854775807 < a1.size + 1) = False := eq_false (Nat.not_lt.2 c7)
          obtain rfl := Option.some.inj H
          go_enter Tryd.func85, Tryd.ntmps85
          go_wp2
          go_ret
          exact ⟨by first | rfl | (simp; done) | (simp only [← hji4] <;> (first | rfl | simp)) | (simp [*]; done), by repeat (first | exact Drawn0.refl _ | apply Drawn0.step)⟩
        · rw [if_neg c7] at H
          exact absurd H (by simp)
      · rw [if_neg c6] at H
        exact absurd H (by simp)
    · rw [if_neg c5] at H
      exact absurd H (by simp)
  · rw [if_neg c3] at H
    have c3b0 : decide ((a1.size : Int) < (a0.size : Int)) = false := decide_eq_false c3
    have c3b1 : decide (a1.size < a0.size) = false := decide_eq_false (fun h => c3 (Int.ofNat_lt.mpr h))
    clear c3
    obtain rfl := Option.some.inj H
    go_enter Tryd.func85, Tryd.ntmps85
    go_wp2
    go_ret
    exact ⟨by first | rfl | (simp; done) | (simp [*]; done), by repeat (first | exact Drawn0.refl _ | apply Drawn0.step)⟩
end Go.Proofs.YtgghefjkkidaoaaDoor.P
end

section
namespace Go.Proofs.YtgghefjkkidaoaaDoor.P
open Go.RowKit Go.Proofs.YtgghefjkkidaoaaDoorW.PrintWords Go.Proofs.YtgghefjkkidaoaaDoorW.PrintLast Go.Proofs.YtgghefjkkidaoaaDoorW.PrintMore Go.Proofs.YtgghefjkkidaoaaDoorM
attribute [local go_sem] max2_int min2_int max_two min_two max_three min_three max_four min_four   -- for this text's walks alone
set_option linter.unusedVariables false
set_option linter.unusedSimpArgs false
set_option maxHeartbeats 400000 in
theorem impl_entryAt.cl (x : S47) (p : ByteArray) (g : Nat) (w : World) (hb : w.cell? ⟨g, 0, none⟩ = some (.string p)) (hg : g < w.heap.size) :
  Calls Tryd.prog 86 #[.agg #[.string x.f0, .int .i64 x.f1, .string x.f2, .bool x.f3], .pointer (some ⟨g, 0, none⟩)] w fun e w' => e = .returned (.bool (x.f0.toList == p.toList)) ∧ Below w.heap.size w w' := by
  have hu47 := Tryd.underlying47
  go_enter Tryd.func86, Tryd.ntmps86
  go_wp2
  go_ret
  exact ⟨rfl, by repeat (first | (with_reducible first | exact Below.refl _ _ | apply below_alloc | apply pw_below_drewN | apply below_drew1) | exact Below.refl _ _)⟩
def impl_entryAt.first (p : ByteArray) : List S47 → Int → Int
  | [], _ => -1
  | e :: t, i => if (e.f0.toList == p.toList) = true then i else impl_entryAt.first p t (i + 1)
theorem impl_entryAt.fi_end (p : ByteArray) (l : List S47) (i : Nat) (h : l.length ≤ i) : impl_entryAt.first p (l.drop i) i = -1 := by
  rw [List.drop_eq_nil_of_le h]; rfl
theorem impl_entryAt.fi_yes (p : ByteArray) (l : List S47) (i : Nat) (h : i < l.length) (hc : ((rd_T47 l i).f0.toList == p.toList) = true) : impl_entryAt.first p (l.drop i) i = i := by
  rw [List.drop_eq_getElem_cons h, impl_entryAt.first, if_pos]
  simpa [rd_T47, List.getD_eq_getElem?_getD, List.getElem?_eq_getElem h] using hc
theorem impl_entryAt.fi_no (p : ByteArray) (l : List S47) (i : Nat) (h : i < l.length) (hc : ((rd_T47 l i).f0.toList == p.toList) = false) : impl_entryAt.first p (l.drop i) i = impl_entryAt.first p (l.drop (i + 1)) ((i + 1 : Nat) : Int) := by
  rw [List.drop_eq_getElem_cons h, impl_entryAt.first, if_neg]
  · rfl
  · simpa [rd_T47, List.getD_eq_getElem?_getD, List.getElem?_eq_getElem h] using hc
set_option maxRecDepth 100000 in
set_option maxHeartbeats 1000000 in
theorem impl_entryAt.indexFunc (A0 : Option Addr) (c0 : Nat) (l0 : List S47) (p : ByteArray) (g : Nat) (w : World) (hr0 : Kd.C k47 w A0 l0.length l0) (hc0 : l0.length ≤ c0) (hb : w.cell? ⟨g, 0, none⟩ = some (.string p)) (hg : g < w.heap.size) :
  Calls Tryd.prog 73 #[.slice A0 l0.length c0, .func (.func 86) #[] #[.pointer (some ⟨g, 0, none⟩)]] w fun e w' => e = .returned (.int .i64 (impl_entryAt.first p l0 0)) ∧ Below w.heap.size w w' := by
  have hu47 := Tryd.underlying47
  have HR0 := Aside0.mk hr0
  have HC0 := Aside0.mk hc0
  have HX := Aside0.mk (And.intro hb hg)
  have hl := hr0.2.1
  clear hr0 hc0 hb hg
  have HB := Aside0.mk (Below.refl w.heap.size w)
  go_enter Tryd.func73, Tryd.ntmps73
  go_wp2
  go_loopw [8] (fun v8 w' => ∃ i : Nat, v8 = .int .i64 i ∧ i ≤ l0.length ∧ Aside0 (impl_entryAt.first p l0 0 = impl_entryAt.first p (l0.drop i) i) ∧ Aside0 (Below w.heap.size w w')) (fun v8 _ => l0.length - (intOf v8).toNat)
  case atStart => exact ⟨0, rfl, Nat.zero_le _, ⟨rfl⟩, ⟨Below.refl _ _⟩⟩
  case round =>
    clear HB
    obtain ⟨i, rfl, hi, HF, HB⟩ := hrel
    by_cases hlt : i < l0.length
    · have p1 : 0 ≤ (i : Int) := by omega
      have q1 : (i : Int) < (l0.length : Int) := by omega
      obtain ⟨ad, e1, hx_0, hx_1, hx_2, hx_3⟩ := at_T47 HR0.out i p1 q1
      cases e1
      replace hx_0 := (HB.out.cell (World.block_lt_of_cell? w _ hx_0)).trans hx_0
      replace hx_1 := (HB.out.cell (World.block_lt_of_cell? w _ hx_1)).trans hx_1
      replace hx_2 := (HB.out.cell (World.block_lt_of_cell? w _ hx_2)).trans hx_2
      replace hx_3 := (HB.out.cell (World.block_lt_of_cell? w _ hx_3)).trans hx_3
      simp only [Int.toNat_natCast] at hx_0 hx_1 hx_2 hx_3
      have hbx := (HB.out.cell (World.block_lt_of_cell? w _ HX.out.1)).trans HX.out.1
      have hs := HB.out.size
      have c1 : decide ((i : Int) < (l0.length : Int)) = true := by simpa using hlt
      have c2 : decide ((i : Nat) < l0.length) = true := by simpa using hlt
      cases hcc : ((rd_T47 l0 i).f0.toList == p.toList) with
      | true =>
        have HCC := Aside0.mk hcc
        clear hcc
        go_wp2_with (go_at_call 86; refine (impl_entryAt.cl (rd_T47 l0 i) p g _ hbx (by have := HX.out.2; omega)).mono ?_; rintro e w8 ⟨rfl, hb8⟩; rw [HCC.out])
        go_ret
        refine ⟨?_, below_step HB.out hb8⟩
        rw [HF.out, impl_entryAt.fi_yes p l0 i hlt HCC.out]
        rfl
      | false =>
        have HCC := Aside0.mk hcc
        clear hcc
        have hw : wrap64 ((i : Int) + 1) = ((i + 1 : Nat) : Int) := by unfold wrap64; omega
        go_wp2_with (go_at_call 86; refine (impl_entryAt.cl (rd_T47 l0 i) p g _ hbx (by have := HX.out.2; omega)).mono ?_; rintro e w8 ⟨rfl, hb8⟩; rw [HCC.out])
        go_roundw
        case rel => exact ⟨i + 1, by first | rfl | (rw [hw]) | (congr 1), by omega, ⟨by rw [HF.out, impl_entryAt.fi_no p l0 i hlt HCC.out]⟩, ⟨below_step HB.out hb8⟩⟩
        case measure => simp [intOf]; omega
    · have c1 : decide ((i : Int) < (l0.length : Int)) = false := by simpa using hlt
      have c2 : decide ((i : Nat) < l0.length) = false := by simpa using hlt
      go_wp2
      go_ret
      refine ⟨?_, HB.out⟩
      rw [HF.out, impl_entryAt.fi_end p l0 i (by omega)]
      rfl
def impl_entryAt.f (l0 : List S47) (a1 : ByteArray) : Option Int := some (impl_entryAt.first a1 l0 0)
theorem impl_entryAt.calls (A0 : Option Addr) (c0 : Nat) (l0 : List S47) (a1 : ByteArray) (r : Int) (w : World) (hr0 : Kd.C k47 w A0 l0.length l0) (hc0 : l0.length ≤ c0) (h : impl_entryAt.f l0 a1 = some r) :
    Calls Tryd.prog 54 #[.slice A0 l0.length c0, .string a1] w fun e w' => e = .returned (.int .i64 r) ∧ Below w.heap.size w w' := by
  obtain rfl := Option.some.inj h
  have HR0 := Aside0.mk hr0
  have HC0 := Aside0.mk hc0
  clear hr0 hc0 h
  go_enter Tryd.func54, Tryd.ntmps54
  go_wp2_with (go_at_call 73; refine (impl_entryAt.indexFunc A0 c0 l0 a1 w.heap.size _ (Kd.C_below HR0.out (below_alloc (Below.refl _ _) _)) HC0.out (by simp [go_sem]) (by show _ < (w.heap.push _).size; rw [Array.size_push]; omega)).mono ?_; rintro e w8 ⟨rfl, hb8⟩)

  go_ret
  exact ⟨rfl, below_step (below_alloc (Below.refl _ _) _) hb8⟩
end Go.Proofs.YtgghefjkkidaoaaDoor.P
end

section
namespace Go.Proofs.YtgghefjkkidaoaaDoor.P
open Go.RowKit Go.Proofs.YtgghefjkkidaoaaDoorW.PrintWords Go.Proofs.YtgghefjkkidaoaaDoorW.PrintLast Go.Proofs.YtgghefjkkidaoaaDoorW.PrintMore Go.Proofs.YtgghefjkkidaoaaDoorM
attribute [local go_sem] max2_int min2_int max_two min_two max_three min_three max_four min_four   -- for this text's walks alone
set_option linter.unusedVariables false
set_option linter.unusedSimpArgs false
end Go.Proofs.YtgghefjkkidaoaaDoor.P
end

section
namespace Go.Proofs.YtgghefjkkidaoaaDoor.P
open Go.RowKit Go.Proofs.YtgghefjkkidaoaaDoorW.PrintWords Go.Proofs.YtgghefjkkidaoaaDoorW.PrintLast Go.Proofs.YtgghefjkkidaoaaDoorW.PrintMore Go.Proofs.YtgghefjkkidaoaaDoorM
attribute [local go_sem] max2_int min2_int max_two min_two max_three min_three max_four min_four   -- for this text's walks alone
set_option linter.unusedVariables false
set_option linter.unusedSimpArgs false
def spec_l10Copy.f (l0 : List (S47)) : Option ((List (S47))) := (some (([] : List (S47)) : List (S47))).bind fun y418 => (if y418.length + l0.length < 2932031007402 then (some (y418 ++ l0)) else (none))
set_option maxHeartbeats 8000000 in
set_option maxRecDepth 100000 in
theorem spec_l10Copy.calls (A0 : Option Addr) (c0 : Nat) (l0 : List (S47)) (r : List (S47)) (w : World) (hr0 : Kd.C k47 w A0 l0.length l0) (hc0 : l0.length ≤ c0) (h : spec_l10Copy.f l0 = some r) :
    Calls Tryd.prog 57 #[.slice A0 l0.length c0] w fun e w' => ∃ v0_ : Value, e = .returned (v0_) ∧ Kd.R k47 47 w' w.heap.size (fun _ => True) v0_ r ∧ Below w.heap.size w w' := by
  have HR0 := Aside0.mk hr0
  have HC0 := Aside0.mk hc0
  clear hr0 hc0
  have HB := Aside0.mk (Below.refl w.heap.size w)
  have H : ((some (([] : List (S47)) : List (S47))).bind fun y418 => (if y418.length + l0.length < 2932031007402 then (some (y418 ++ l0)) else (none))) = some r := h
  clear h
  obtain ⟨y418, hy418⟩ : ∃ y_ : List (S47), y_ = (([] : List (S47))) := ⟨_, rfl⟩
  replace H : (if y418.length + l0.length < 2932031007402 then (some (y418 ++ l0)) else (none)) = some r := by first | (rw [hy418]; with_reducible exact H) | (have H2_ := (Option.bind_some _ _).symm.trans H; rw [hy418]; with_reducible exact H2_) | (have H2_ := (Option.bind_some _ _).symm.trans H; with_reducible exact H2_) | with_reducible exact H | (rw [hy418]; exact H) | exact H
  have Ny418 := Aside0.mk hy418
  clear hy418
  by_cases c2 : y418.length + l0.length < 2932031007402
  · rw [if_pos c2] at H
    have LMc2 := Aside0.mk c2
    clear c2
    obtain ⟨y421, hy421⟩ : ∃ y_ : List (S47), y_ = (y418 ++ l0) := ⟨_, rfl⟩
    replace H : (some y421) = some r := by first | (rw [hy421]; with_reducible exact H) | (have H2_ := (Option.bind_some _ _).symm.trans H; rw [hy421]; with_reducible exact H2_) | (have H2_ := (Option.bind_some _ _).symm.trans H; with_reducible exact H2_) | with_reducible exact H | (rw [hy421]; exact H) | exact H
    have Ny421 := Aside0.mk hy421
    clear hy421
    obtain rfl := Option.some.inj H
    go_enter Tryd.func57, Tryd.ntmps57
    go_wp2_with (first | ((with_reducible refine gate_dst (N := 3) rfl ?_); refine Kd.R_lit k47 _ 47 ?hg (N := 3) ?hd (xs := ([] : List (S47))) (inner := []) (ok := fun _ => True) (okp := fun _ => True) ?hr ?hp (fun _ hk => hk) trivial (Below.refl _ _) (Nat.le_refl _) (by simp) ?_; (case hd => rfl); (case hg => rfl); (case hr => first | (go_simp; done) | (go_simp; rfl)); (case hp => exact (Reps.none _ _)); intro v419 w3 ho4 hb hg_ hnew_; clear hg_ hnew_; (first | rw [← Ny418.out] at ho4 | (simp only [Int.reduceToNat] at ho4; rw [← Ny418.out] at ho4)); have n0_ := Aside0.mk (Kd.R_lower ho4 (below_size (by repeat (first | (with_reducible first | exact HB.out | apply below_alloc | apply pw_below_drewN | apply below_drew1) | exact HB.out)))); have n1_ := Aside0.mk (below_step (by repeat (first | (with_reducible first | exact HB.out | apply below_alloc | apply pw_below_drewN | apply below_drew1) | exact HB.out)) hb); clear HB; have HO420 := n0_; have HB := n1_; clear n0_ n1_; clear hb ho4) | ((with_reducible refine gate_builtin (b := .append) (xs := #[.tmp 3, .tmp 4]) rfl ?_); at_builtin; refine Kd.R_append_rows k47 (w0 := w) w.heap.size rfl (.tmp 3) (.tmp 4) 25 47 (.agg #[(.string ⟨#[]⟩), (.int .i64 0), (.string ⟨#[]⟩), (.bool false)]) 48 rfl Tryd.underlying25 info47 rfl (by decide) (by omega) v419 y418 l0 _ _ _ (fun _ => True) (fun _ => False) rfl rfl ?aO ?aR (fun _ _ h => h) (fun _ h => h.elim) ?aF ?aB ?aS ?aL ?_; (case aR => repeat (first | exact (Kd.C_below HR0.out HB.out) | (with_reducible refine Kd.C_alloc ?_ _) | (with_reducible refine Kd.C_drewN ?_ _) | (with_reducible refine Kd.C_drew ?_))); (case aB => exact (by repeat (first | (with_reducible first | exact HB.out | apply below_alloc | apply pw_below_drewN | apply below_drew1) | exact HB.out))); (case aF => exact (fun _ _ => trivial)); (case aO => exact (by (with_reducible repeat (first | apply Kd.R_alloc | apply Kd.R_drewN | apply Kd.R_drew)); exact HO420.out)); (case aS => exact (below_size (by repeat (first | (with_reducible first | exact HB.out | apply below_alloc | apply pw_below_drewN | apply below_drew1) | exact HB.out)))); (case aL => have := LMc2.out; omega); intro v422 w5 ho hb hg hat; rw [← Ny421.out] at ho; have n0_ := Aside0.mk (hb); have n1_ := Aside0.mk (ho); clear HB; clear HO420; have HB := n0_; have HO423 := n1_; clear n0_ n1_; clear ho hb hg hat))
    go_ret
    exact ⟨_, by first | rfl | (simp [errW_none, errW_some] <;> rfl) | (simp [*, errW_none, errW_some] <;> rfl), by (with_reducible repeat (first | apply Kd.R_alloc | apply Kd.R_drewN | apply Kd.R_drew)); exact HO423.out, by repeat (first | (with_reducible first | exact HB.out | apply below_alloc | apply pw_below_drewN | apply below_drew1) | exact HB.out)⟩
  · rw [if_neg c2] at H
    exact absurd H (by simp)
end Go.Proofs.YtgghefjkkidaoaaDoor.P
end

section
namespace Go.Proofs.YtgghefjkkidaoaaDoor.P
open Go.RowKit Go.Proofs.YtgghefjkkidaoaaDoorW.PrintWords Go.Proofs.YtgghefjkkidaoaaDoorW.PrintLast Go.Proofs.YtgghefjkkidaoaaDoorW.PrintMore Go.Proofs.YtgghefjkkidaoaaDoorM
attribute [local go_sem] max2_int min2_int max_two min_two max_three min_three max_four min_four   -- for this text's walks alone
set_option linter.unusedVariables false
set_option linter.unusedSimpArgs false
end Go.Proofs.YtgghefjkkidaoaaDoor.P
end

section
namespace Go.Proofs.YtgghefjkkidaoaaDoor.P
open Go.RowKit Go.Proofs.YtgghefjkkidaoaaDoorW.PrintWords Go.Proofs.YtgghefjkkidaoaaDoorW.PrintLast Go.Proofs.YtgghefjkkidaoaaDoorW.PrintMore Go.Proofs.YtgghefjkkidaoaaDoorM
attribute [local go_sem] max2_int min2_int max_two min_two max_three min_three max_four min_four   -- for this text's walks alone
set_option linter.unusedVariables false
set_option linter.unusedSimpArgs false
end Go.Proofs.YtgghefjkkidaoaaDoor.P
end

section
namespace Go.Proofs.YtgghefjkkidaoaaDoor.P
open Go.RowKit Go.Proofs.YtgghefjkkidaoaaDoorW.PrintWords Go.Proofs.YtgghefjkkidaoaaDoorW.PrintLast Go.Proofs.YtgghefjkkidaoaaDoorW.PrintMore Go.Proofs.YtgghefjkkidaoaaDoorM
attribute [local go_sem] max2_int min2_int max_two min_two max_three min_three max_four min_four   -- for this text's walks alone
set_option linter.unusedVariables false
set_option linter.unusedSimpArgs false
def impl_cloneTree.f (l0 : List S47) : Option (List S47) := if l0.length < 2932031007402 then some l0 else none
set_option maxHeartbeats 1000000 in
theorem impl_cloneTree.calls (A0 : Option Addr) (c0 : Nat) (l0 : List S47) (r : List S47) (w : World) (hr0 : Kd.C k47 w A0 l0.length l0) (hc0 : l0.length ≤ c0) (h : impl_cloneTree.f l0 = some r) :
    Calls Tryd.prog 59 #[.slice A0 l0.length c0] w fun e w' => ∃ v0_ : Value, e = .returned (v0_) ∧ Kd.R k47 47 w' w.heap.size (fun _ => True) v0_ r ∧ Below w.heap.size w w' := by
  unfold impl_cloneTree.f at h
  by_cases c2 : l0.length < 2932031007402
  · rw [if_pos c2] at h
    obtain rfl := Option.some.inj h
    have HR0 := Aside0.mk hr0
    have HC0 := Aside0.mk hc0
    have LM := Aside0.mk c2
    clear hr0 hc0 h c2
    go_enter Tryd.func59, Tryd.ntmps59
    go_wp2_with (first | ((with_reducible refine gate_builtin (b := .append) (xs := #[.const (.slice none 0 0), .tmp 3]) rfl ?_); refine Kd.R_append_rows k47 (w0 := w) w.heap.size rfl (.const (.slice none 0 0)) (.tmp 3) 25 47 (.agg #[(.string ⟨#[]⟩), (.int .i64 0), (.string ⟨#[]⟩), (.bool false)]) 48 rfl Tryd.underlying25 info47 rfl (by decide) (by omega) (.slice none 0 0) [] l0 _ _ _ (fun _ => True) (fun _ => False) rfl rfl (Kd.R_nil _ _ _ _ _) HR0.out (fun _ _ h => h) (fun _ h => h.elim) (fun _ _ => trivial) (Below.refl _ _) (Nat.le_refl _) (by have := LM.out; simp only [List.length_nil]; omega) ?_; intro v391 w5 ho hb hg hat; rw [List.nil_append] at ho))
    go_ret
    exact ⟨_, rfl, ho, hb⟩
  · rw [if_neg c2] at h
    cases h
end Go.Proofs.YtgghefjkkidaoaaDoor.P
end

section
namespace Go.Proofs.YtgghefjkkidaoaaDoor.P
open Go.RowKit Go.Proofs.YtgghefjkkidaoaaDoorW.PrintWords Go.Proofs.YtgghefjkkidaoaaDoorW.PrintLast Go.Proofs.YtgghefjkkidaoaaDoorW.PrintMore Go.Proofs.YtgghefjkkidaoaaDoorM
attribute [local go_sem] max2_int min2_int max_two min_two max_three min_three max_four min_four   -- for this text's walks alone
set_option linter.unusedVariables false
set_option linter.unusedSimpArgs false
end Go.Proofs.YtgghefjkkidaoaaDoor.P
end

section
namespace Go.Proofs.YtgghefjkkidaoaaDoor.P
open Go.RowKit Go.Proofs.YtgghefjkkidaoaaDoorW.PrintWords Go.Proofs.YtgghefjkkidaoaaDoorW.PrintLast Go.Proofs.YtgghefjkkidaoaaDoorW.PrintMore Go.Proofs.YtgghefjkkidaoaaDoorM
attribute [local go_sem] max2_int min2_int max_two min_two max_three min_three max_four min_four   -- for this text's walks alone
set_option linter.unusedVariables false
set_option linter.unusedSimpArgs false
end Go.Proofs.YtgghefjkkidaoaaDoor.P
end

section
namespace Go.Proofs.YtgghefjkkidaoaaDoor.P
open Go.RowKit Go.Proofs.YtgghefjkkidaoaaDoorW.PrintWords Go.Proofs.YtgghefjkkidaoaaDoorW.PrintLast Go.Proofs.YtgghefjkkidaoaaDoorW.PrintMore Go.Proofs.YtgghefjkkidaoaaDoorM
attribute [local go_sem] max2_int min2_int max_two min_two max_three min_three max_four min_four   -- for this text's walks alone
set_option linter.unusedVariables false
set_option linter.unusedSimpArgs false
def spec_l10Full.l0 : Nat → List (S47) → ByteArray → Int → Option (Bool)
  | 0, _, _, _ => none
  | k + 1, x0, x1, x5 => if x5 < (x0.length : Int) then (if 0 ≤ x5 then ((spec_l10Under.f ((rd_T47 x0 x5).f0) x1).bind fun t583 => (if t583 = true then (some true) else (spec_l10Full.l0 k x0 x1 (wrap64 (x5 + 1))))) else (none)) else (some false)
def spec_l10Full.f (k : Nat) (l0 : List (S47)) (a1 : ByteArray) : Option (Bool) := spec_l10Full.l0 k l0 a1 0
set_option maxHeartbeats 8000000 in
set_option maxRecDepth 100000 in
theorem spec_l10Full.calls (k : Nat) (A0 : Option Addr) (c0 : Nat) (l0 : List (S47)) (a1 : ByteArray) (r : Bool) (w : World) (hr0 : Kd.C k47 w A0 l0.length l0) (hc0 : l0.length ≤ c0) (h : spec_l10Full.f k l0 a1 = some r) :
    Calls Tryd.prog 94 #[.slice A0 l0.length c0, .string a1] w fun e w' => e = .returned (.bool r) ∧ Drawn0 w w' := by
  have HR0 := Aside0.mk hr0
  have HC0 := Aside0.mk hc0
  clear hr0 hc0
  have H : (spec_l10Full.l0 k l0 a1 0) = some r := h
  clear h
  have H' := Aside0.mk H
  clear H
  go_enter Tryd.func94, Tryd.ntmps94
  go_wp2
  go_loopg [5] k (fun kq v5 w' => ∃ (x5_1 : Int), v5 = .int .i64 x5_1 ∧ Aside0 (spec_l10Full.l0 kq l0 a1 x5_1 = some r) ∧ Aside0 (kq ≤ k) ∧ Drawn0 w w')
  case atStart => exact ⟨(0), (by first | rfl | (simp; done) | (simp [*]; done)), H', ⟨Nat.le_refl _⟩, by repeat (first | exact Drawn0.refl _ | apply Drawn0.step)⟩
  case round =>
    clear H'
    try clear p2
    obtain ⟨x5_1, rfl, HA, HK1, ⟨m1, rfl⟩⟩ := hrel
    cases gk with
    | zero => exact absurd HA.out (by simp [spec_l10Full.l0])
    | succ k1 =>
      have H := HA.out
      clear HA
      simp only [spec_l10Full.l0] at H
      by_cases c3 : x5_1 < (l0.length : Int)
      · rw [if_pos c3] at H
        have c3b0 : decide (x5_1 < (l0.length : Int)) = true := decide_eq_true c3
        clear c3
        by_cases c4 : 0 ≤ x5_1
        · rw [if_pos c4] at H
          have c4b0 : decide (0 ≤ x5_1) = true := decide_eq_true c4
          clear c4
          replace H := Option.bind_eq_some_iff.mp H
          obtain ⟨t583, A50, H⟩ := H
          replace H : (if t583 = true then (some true) else (spec_l10Full.l0 k1 l0 a1 (wrap64 (x5_1 + 1)))) = some r := H
          have A5 := Aside0.mk A50
          clear A50
          by_cases c6 : t583 = true
          · subst c6
            have H1 : (some true) = some r := by rw [if_pos rfl] at H; exact H
            clear H
            have H := H1
            clear H1
            obtain rfl := Option.some.inj H
            have p582 : 0 ≤ (x5_1 : Int) := of_decide_eq_true (by first | (with_reducible assumption) | assumption)
            have q582 : x5_1 < (l0.length : Int) := of_decide_eq_true (by first | (with_reducible assumption) | assumption)
            obtain ⟨ad582, e582, hx582_0, hx582_1, hx582_2, hx582_3⟩ := at_T47 HR0.out x5_1 p582 q582
            cases e582
            replace p582 := eq_true p582
            replace q582 := eq_true q582
            go_wp2_with (first | ((with_reducible refine gate_callee (f := 85) rfl ?_); refine goesL_ (some 18) rfl rfl Tryd.func85 (by kernel_rfl) rfl #[.string ((rd_T47 l0 x5_1).f0), .string a1] rfl (by (try simp only [List.map_toArray, List.map_cons, List.map_nil]); first | done | rfl | (simp only [List.length_drop, List.length_take]; rfl)) ?_; (with_reducible refine (spec_l10Under.calls ((rd_T47 l0 x5_1).f0) a1 true _ A5.out).mono ?_); rintro e w' ⟨rfl, ⟨nd, rfl⟩⟩; refine ⟨_, rfl, ?_⟩))
            go_ret
            exact ⟨by first | rfl | (simp; done) | (simp [*]; done), by repeat (first | exact Drawn0.refl _ | apply Drawn0.step)⟩
          · replace c6 := Bool.eq_false_iff.mpr c6
            subst c6
            have H1 : (spec_l10Full.l0 k1 l0 a1 (wrap64 (x5_1 + 1))) = some r := by rw [if_neg (show ¬ (false = true) by decide)] at H; exact H
            clear H
            have H := H1
            clear H1
            have H' := Aside0.mk H
            clear H
            have p582 : 0 ≤ (x5_1 : Int) := of_decide_eq_true (by first | (with_reducible assumption) | assumption)
            have q582 : x5_1 < (l0.length : Int) := of_decide_eq_true (by first | (with_reducible assumption) | assumption)
            obtain ⟨ad582, e582, hx582_0, hx582_1, hx582_2, hx582_3⟩ := at_T47 HR0.out x5_1 p582 q582
            cases e582
            replace p582 := eq_true p582
            replace q582 := eq_true q582
            go_wp2_with (first | ((with_reducible refine gate_callee (f := 85) rfl ?_); refine goesL_ (some 18) rfl rfl Tryd.func85 (by kernel_rfl) rfl #[.string ((rd_T47 l0 x5_1).f0), .string a1] rfl (by (try simp only [List.map_toArray, List.map_cons, List.map_nil]); first | done | rfl | (simp only [List.length_drop, List.length_take]; rfl)) ?_; (with_reducible refine (spec_l10Under.calls ((rd_T47 l0 x5_1).f0) a1 false _ A5.out).mono ?_); rintro e w' ⟨rfl, ⟨nd, rfl⟩⟩; refine ⟨_, rfl, ?_⟩))
            go_roundg k1
            case measure => have := HK1.out; omega
            case rel => exact ⟨(wrap64 (x5_1 + 1)), (by first | rfl | (simp; done) | (simp [*]; done)), H', ⟨by have := HK1.out; omega⟩, by repeat (first | exact Drawn0.refl _ | apply Drawn0.step)⟩
        · rw [if_neg c4] at H
          exact absurd H (by simp)
      · rw [if_neg c3] at H
        have c3b0 : decide (x5_1 < (l0.length : Int)) = false := decide_eq_false c3
        clear c3
        obtain rfl := Option.some.inj H
        go_wp2
        go_ret
        exact ⟨by first | rfl | (simp; done) | (simp [*]; done), by repeat (first | exact Drawn0.refl _ | apply Drawn0.step)⟩
end Go.Proofs.YtgghefjkkidaoaaDoor.P
end

section
namespace Go.Proofs.YtgghefjkkidaoaaDoor.P
open Go.RowKit Go.Proofs.YtgghefjkkidaoaaDoorW.PrintWords Go.Proofs.YtgghefjkkidaoaaDoorW.PrintLast Go.Proofs.YtgghefjkkidaoaaDoorW.PrintMore Go.Proofs.YtgghefjkkidaoaaDoorM
attribute [local go_sem] max2_int min2_int max_two min_two max_three min_three max_four min_four   -- for this text's walks alone
set_option linter.unusedVariables false
set_option linter.unusedSimpArgs false
mutual
def spec_l10Put.j0 : Nat → List (S47) → Bool → ByteArray → Int → ByteArray → Bool → Option ((List (S47)) × Bool)
  | 0, _, _, _, _, _, _ => none
  | k + 1, x0, x36, x585000, x585001, x585002, x585003 => if x36 = true then ((spec_l10Copy.f x0).bind fun t590 => (some (t590, false))) else (spec_l10Put.l0 k x0 (([] : List (S47))) false 0 x585000 x585001 x585002 x585003)
def spec_l10Put.l0 : Nat → List (S47) → List (S47) → Bool → Int → ByteArray → Int → ByteArray → Bool → Option ((List (S47)) × Bool)
  | 0, _, _, _, _, _, _, _, _ => none
  | k + 1, x0, x7, x8, x9, x585000, x585001, x585002, x585003 => if x9 < (x0.length : Int) then (if x8 = true then (spec_l10Put.j2 k x0 x7 x8 x9 false x585000 x585001 x585002 x585003) else (if 0 ≤ x9 then (spec_l10Put.j2 k x0 x7 x8 x9 (!(Op.bytesLess (((rd_T47 x0 x9).f0).toList) x585000.toList)) x585000 x585001 x585002 x585003) else (none))) else (if x8 = true then (if (x7.length : Int) > 500 then ((spec_l10Copy.f x0).bind fun t610 => (some (t610, false))) else (some (x7, true))) else (if x7.length < 2932031007402 then ((some (x7 ++ [(⟨x585000, x585001, x585002, x585003⟩ : S47)] : List (S47))).bind fun y613 => (if (y613.length : Int) > 500 then ((spec_l10Copy.f x0).bind fun t616 => (some (t616, false))) else (some (y613, true)))) else (none)))
def spec_l10Put.j2 : Nat → List (S47) → List (S47) → Bool → Int → Bool → ByteArray → Int → ByteArray → Bool → Option ((List (S47)) × Bool)
  | 0, _, _, _, _, _, _, _, _, _ => none
  | k + 1, x0, x7, x8, x9, x57, x585000, x585001, x585002, x585003 => if x57 = true then (if x7.length < 2932031007402 then ((some (x7 ++ [(⟨x585000, x585001, x585002, x585003⟩ : S47)] : List (S47))).bind fun y597 => (if 0 ≤ x9 then (if x9 < (x0.length : Int) then (if ((rd_T47 x0 x9).f0).toList = x585000.toList then (spec_l10Put.l0 k x0 y597 true (wrap64 (x9 + 1)) x585000 x585001 x585002 x585003) else (if y597.length < 2932031007402 then (spec_l10Put.l0 k x0 (y597 ++ [(⟨(rd_T47 x0 x9).f0, (rd_T47 x0 x9).f1, (rd_T47 x0 x9).f2, (rd_T47 x0 x9).f3⟩ : S47)]) true (wrap64 (x9 + 1)) x585000 x585001 x585002 x585003) else (none))) else (none)) else (none))) else (none)) else (if 0 ≤ x9 then (if x9 < (x0.length : Int) then (if ((rd_T47 x0 x9).f0).toList = x585000.toList then (spec_l10Put.l0 k x0 x7 x8 (wrap64 (x9 + 1)) x585000 x585001 x585002 x585003) else (if x7.length < 2932031007402 then (spec_l10Put.l0 k x0 (x7 ++ [(⟨(rd_T47 x0 x9).f0, (rd_T47 x0 x9).f1, (rd_T47 x0 x9).f2, (rd_T47 x0 x9).f3⟩ : S47)]) x8 (wrap64 (x9 + 1)) x585000 x585001 x585002 x585003) else (none))) else (none)) else (none))
end
def spec_l10Put.f (k : Nat) (l0 : List (S47)) (a1_0 : ByteArray) (a1_1 : Int) (a1_2 : ByteArray) (a1_3 : Bool) : Option ((List (S47)) × Bool) := (spec_l10Up.f k a1_0).bind fun t585 => ((spec_l10EntryOk.f k a1_0 a1_1 a1_2 a1_3).bind fun t586 => (if t586 = true then (if t585.toList = ([] : List UInt8) then (if a1_1 = 1 then (spec_l10Put.j0 k l0 false a1_0 a1_1 a1_2 a1_3) else ((spec_l10Full.f k l0 a1_0).bind fun t587 => (spec_l10Put.j0 k l0 t587 a1_0 a1_1 a1_2 a1_3))) else ((spec_l10Dir.f k l0 t585).bind fun t588 => (if t588 = true then (if a1_1 = 1 then (spec_l10Put.j0 k l0 false a1_0 a1_1 a1_2 a1_3) else ((spec_l10Full.f k l0 a1_0).bind fun t589 => (spec_l10Put.j0 k l0 t589 a1_0 a1_1 a1_2 a1_3))) else (spec_l10Put.j0 k l0 true a1_0 a1_1 a1_2 a1_3)))) else (spec_l10Put.j0 k l0 true a1_0 a1_1 a1_2 a1_3)))
set_option maxHeartbeats 8000000 in
set_option maxRecDepth 100000 in
theorem spec_l10Put.calls (k : Nat) (A0 : Option Addr) (c0 : Nat) (l0 : List (S47)) (a1_0 : ByteArray) (a1_1 : Int) (a1_2 : ByteArray) (a1_3 : Bool) (r1 : List (S47)) (r2 : Bool) (w : World) (hr0 : Kd.C k47 w A0 l0.length l0) (hc0 : l0.length ≤ c0) (h : spec_l10Put.f k l0 a1_0 a1_1 a1_2 a1_3 = some (r1, r2)) :
    Calls Tryd.prog 72 #[.slice A0 l0.length c0, .agg #[.string a1_0, .int .i64 a1_1, .string a1_2, .bool a1_3]] w fun e w' => ∃ v0_ : Value, e = .returned (.tuple #[v0_, .bool r2]) ∧ Kd.R k47 47 w' w.heap.size (fun _ => True) v0_ r1 ∧ Below w.heap.size w w' := by
  have hu47 := Tryd.underlying47
  have HR0 := Aside0.mk hr0
  have HC0 := Aside0.mk hc0
  clear hr0 hc0
  have HB := Aside0.mk (Below.refl w.heap.size w)
  have H : ((spec_l10Up.f k a1_0).bind fun t585 => ((spec_l10EntryOk.f k a1_0 a1_1 a1_2 a1_3).bind fun t586 => (if t586 = true then (if t585.toList = ([] : List UInt8) then (if a1_1 = 1 then (spec_l10Put.j0 k l0 false a1_0 a1_1 a1_2 a1_3) else ((spec_l10Full.f k l0 a1_0).bind fun t587 => (spec_l10Put.j0 k l0 t587 a1_0 a1_1 a1_2 a1_3))) else ((spec_l10Dir.f k l0 t585).bind fun t588 => (if t588 = true then (if a1_1 = 1 then (spec_l10Put.j0 k l0 false a1_0 a1_1 a1_2 a1_3) else ((spec_l10Full.f k l0 a1_0).bind fun t589 => (spec_l10Put.j0 k l0 t589 a1_0 a1_1 a1_2 a1_3))) else (spec_l10Put.j0 k l0 true a1_0 a1_1 a1_2 a1_3)))) else (spec_l10Put.j0 k l0 true a1_0 a1_1 a1_2 a1_3)))) = some (r1, r2) := h
  clear h
  replace H := Option.bind_eq_some_iff.mp H
  obtain ⟨t585, A30, H⟩ := H
  replace H : ((spec_l10EntryOk.f k a1_0 a1_1 a1_2 a1_3).bind fun t586 => (if t586 = true then (if t585.toList = ([] : List UInt8) then (if a1_1 = 1 then (spec_l10Put.j0 k l0 false a1_0 a1_1 a1_2 a1_3) else ((spec_l10Full.f k l0 a1_0).bind fun t587 => (spec_l10Put.j0 k l0 t587 a1_0 a1_1 a1_2 a1_3))) else ((spec_l10Dir.f k l0 t585).bind fun t588 => (if t588 = true then (if a1_1 = 1 then (spec_l10Put.j0 k l0 false a1_0 a1_1 a1_2 a1_3) else ((spec_l10Full.f k l0 a1_0).bind fun t589 => (spec_l10Put.j0 k l0 t589 a1_0 a1_1 a1_2 a1_3))) else (spec_l10Put.j0 k l0 true a1_0 a1_1 a1_2 a1_3)))) else (spec_l10Put.j0 k l0 true a1_0 a1_1 a1_2 a1_3))) = some (r1, r2) := H
  have A3 := Aside0.mk A30
  clear A30
  have HC4 := Aside0.mk H
  clear H
  go_enter Tryd.func72, Tryd.ntmps72
  go_upto_region 2 with (first | ((with_reducible refine gate_dst (N := 3) rfl ?_); refine box_event ?hg (N := 3) ?hd (cs := #[.string a1_0, .int .i64 a1_1, .string a1_2, .bool a1_3]) (t := 47) ?hr ?_; (case hd => rfl); (case hg => rfl); (case hr => first | (go_simp; done) | (go_simp; rfl)); intro gb584 hg w5 hbox hb; have n0_ := Aside0.mk (below_step (by repeat (first | (with_reducible first | exact HB.out | apply below_alloc | apply pw_below_drewN | apply below_drew1) | exact HB.out)) hb); have n1_ := Aside0.mk (hbox); have n2_ := Aside0.mk ((by rw [hg]; exact (below_size (by repeat (first | (with_reducible first | exact HB.out | apply below_alloc | apply pw_below_drewN | apply below_drew1) | exact HB.out))) : w.heap.size ≤ gb584)); have n3_ := Aside0.mk ((by rw [hg]; exact (below_size (by repeat (first | (with_reducible first | exact HB.out | apply below_alloc | apply pw_below_drewN | apply below_drew1) | exact HB.out))) : w.heap.size ≤ gb584)); clear HB; have HB := n0_; have BK584 := n1_; have GW584 := n2_; have GE584 := n3_; clear n0_ n1_ n2_ n3_; clear hb hbox hg; have hcz6_0 : w5.cell? ⟨gb584, 0, none⟩ = some (.string a1_0) := (blk_cell BK584.out 0).trans rfl; have hcz6_1 : w5.cell? ⟨gb584, 1, none⟩ = some (.int .i64 a1_1) := (blk_cell BK584.out 1).trans rfl; have hcz6_2 : w5.cell? ⟨gb584, 2, none⟩ = some (.string a1_2) := (blk_cell BK584.out 2).trans rfl; have hcz6_3 : w5.cell? ⟨gb584, 3, none⟩ = some (.bool a1_3) := (blk_cell BK584.out 3).trans rfl; have hfz6_0 := blk_frozen BK584.out 0; have hfz6_1 := blk_frozen BK584.out 1; have hfz6_2 := blk_frozen BK584.out 2; have hfz6_3 := blk_frozen BK584.out 3) | (go_at_call 80; (with_reducible refine (spec_l10Up.calls k a1_0 t585 _ A3.out).mono ?_); rintro e w' ⟨rfl, ⟨nd, rfl⟩⟩; (try first | exact ⟨rfl, _, World.drewN_drewN _ _ _⟩ | exact ⟨rfl, _, Eq.trans (World.drewN_drewN _ _ _) (congrArg (World.drewN _) (Nat.add_assoc _ _ _))⟩)))
  repeat (go_quiet (first | ((with_reducible refine gate_dst (N := 3) rfl ?_); refine box_event ?hg (N := 3) ?hd (cs := #[.string a1_0, .int .i64 a1_1, .string a1_2, .bool a1_3]) (t := 47) ?hr ?_; (case hd => rfl); (case hg => rfl); (case hr => first | (go_simp; done) | (go_simp; rfl)); intro gb584 hg w5 hbox hb; have n0_ := Aside0.mk (below_step (by repeat (first | (with_reducible first | exact HB.out | apply below_alloc | apply pw_below_drewN | apply below_drew1) | exact HB.out)) hb); have n1_ := Aside0.mk (hbox); have n2_ := Aside0.mk ((by rw [hg]; exact (below_size (by repeat (first | (with_reducible first | exact HB.out | apply below_alloc | apply pw_below_drewN | apply below_drew1) | exact HB.out))) : w.heap.size ≤ gb584)); have n3_ := Aside0.mk ((by rw [hg]; exact (below_size (by repeat (first | (with_reducible first | exact HB.out | apply below_alloc | apply pw_below_drewN | apply below_drew1) | exact HB.out))) : w.heap.size ≤ gb584)); clear HB; have HB := n0_; have BK584 := n1_; have GW584 := n2_; have GE584 := n3_; clear n0_ n1_ n2_ n3_; clear hb hbox hg; have hcz6_0 : w5.cell? ⟨gb584, 0, none⟩ = some (.string a1_0) := (blk_cell BK584.out 0).trans rfl; have hcz6_1 : w5.cell? ⟨gb584, 1, none⟩ = some (.int .i64 a1_1) := (blk_cell BK584.out 1).trans rfl; have hcz6_2 : w5.cell? ⟨gb584, 2, none⟩ = some (.string a1_2) := (blk_cell BK584.out 2).trans rfl; have hcz6_3 : w5.cell? ⟨gb584, 3, none⟩ = some (.bool a1_3) := (blk_cell BK584.out 3).trans rfl; have hfz6_0 := blk_frozen BK584.out 0; have hfz6_1 := blk_frozen BK584.out 1; have hfz6_2 := blk_frozen BK584.out 2; have hfz6_3 := blk_frozen BK584.out 3) | (go_at_call 80; (with_reducible refine (spec_l10Up.calls k a1_0 t585 _ A3.out).mono ?_); rintro e w' ⟨rfl, ⟨nd, rfl⟩⟩; (try first | exact ⟨rfl, _, World.drewN_drewN _ _ _⟩ | exact ⟨rfl, _, Eq.trans (World.drewN_drewN _ _ _) (congrArg (World.drewN _) (Nat.add_assoc _ _ _))⟩))); go_upto_region 2 with (first | ((with_reducible refine gate_dst (N := 3) rfl ?_); refine box_event ?hg (N := 3) ?hd (cs := #[.string a1_0, .int .i64 a1_1, .string a1_2, .bool a1_3]) (t := 47) ?hr ?_; (case hd => rfl); (case hg => rfl); (case hr => first | (go_simp; done) | (go_simp; rfl)); intro gb584 hg w5 hbox hb; have n0_ := Aside0.mk (below_step (by repeat (first | (with_reducible first | exact HB.out | apply below_alloc | apply pw_below_drewN | apply below_drew1) | exact HB.out)) hb); have n1_ := Aside0.mk (hbox); have n2_ := Aside0.mk ((by rw [hg]; exact (below_size (by repeat (first | (with_reducible first | exact HB.out | apply below_alloc | apply pw_below_drewN | apply below_drew1) | exact HB.out))) : w.heap.size ≤ gb584)); have n3_ := Aside0.mk ((by rw [hg]; exact (below_size (by repeat (first | (with_reducible first | exact HB.out | apply below_alloc | apply pw_below_drewN | apply below_drew1) | exact HB.out))) : w.heap.size ≤ gb584)); clear HB; have HB := n0_; have BK584 := n1_; have GW584 := n2_; have GE584 := n3_; clear n0_ n1_ n2_ n3_; clear hb hbox hg; have hcz6_0 : w5.cell? ⟨gb584, 0, none⟩ = some (.string a1_0) := (blk_cell BK584.out 0).trans rfl; have hcz6_1 : w5.cell? ⟨gb584, 1, none⟩ = some (.int .i64 a1_1) := (blk_cell BK584.out 1).trans rfl; have hcz6_2 : w5.cell? ⟨gb584, 2, none⟩ = some (.string a1_2) := (blk_cell BK584.out 2).trans rfl; have hcz6_3 : w5.cell? ⟨gb584, 3, none⟩ = some (.bool a1_3) := (blk_cell BK584.out 3).trans rfl; have hfz6_0 := blk_frozen BK584.out 0; have hfz6_1 := blk_frozen BK584.out 1; have hfz6_2 := blk_frozen BK584.out 2; have hfz6_3 := blk_frozen BK584.out 3) | (go_at_call 80; (with_reducible refine (spec_l10Up.calls k a1_0 t585 _ A3.out).mono ?_); rintro e w' ⟨rfl, ⟨nd, rfl⟩⟩; (try first | exact ⟨rfl, _, World.drewN_drewN _ _ _⟩ | exact ⟨rfl, _, Eq.trans (World.drewN_drewN _ _ _) (congrArg (World.drewN _) (Nat.add_assoc _ _ _))⟩))))
  (try simp only [Act.put, List.setIfInBounds_toArray, List.set_cons_zero, List.set_cons_succ])
  go_cut [36] (fun v36 wc => ∃ (kq : Nat) (x36_3 : Bool), v36 = .bool x36_3 ∧ Aside0 (spec_l10Put.j0 kq l0 x36_3 a1_0 a1_1 a1_2 a1_3 = some (r1, r2)) ∧ Aside0 (kq ≤ k) ∧ Aside0 (wc.heap[gb584]? = some (.cells #[.string a1_0, .int .i64 a1_1, .string a1_2, .bool a1_3] 47 (0, 0))) ∧ Aside0 (Below w.heap.size w wc))
  case first =>
    have H := HC4.out
    clear HC4
    replace H := Option.bind_eq_some_iff.mp H
    obtain ⟨t586, A70, H⟩ := H
    replace H : (if t586 = true then (if t585.toList = ([] : List UInt8) then (if a1_1 = 1 then (spec_l10Put.j0 k l0 false a1_0 a1_1 a1_2 a1_3) else ((spec_l10Full.f k l0 a1_0).bind fun t587 => (spec_l10Put.j0 k l0 t587 a1_0 a1_1 a1_2 a1_3))) else ((spec_l10Dir.f k l0 t585).bind fun t588 => (if t588 = true then (if a1_1 = 1 then (spec_l10Put.j0 k l0 false a1_0 a1_1 a1_2 a1_3) else ((spec_l10Full.f k l0 a1_0).bind fun t589 => (spec_l10Put.j0 k l0 t589 a1_0 a1_1 a1_2 a1_3))) else (spec_l10Put.j0 k l0 true a1_0 a1_1 a1_2 a1_3)))) else (spec_l10Put.j0 k l0 true a1_0 a1_1 a1_2 a1_3)) = some (r1, r2) := H
    have A7 := Aside0.mk A70
    clear A70
    by_cases c8 : t586 = true
    · subst c8
      have H1 : (if t585.toList = ([] : List UInt8) then (if a1_1 = 1 then (spec_l10Put.j0 k l0 false a1_0 a1_1 a1_2 a1_3) else ((spec_l10Full.f k l0 a1_0).bind fun t587 => (spec_l10Put.j0 k l0 t587 a1_0 a1_1 a1_2 a1_3))) else ((spec_l10Dir.f k l0 t585).bind fun t588 => (if t588 = true then (if a1_1 = 1 then (spec_l10Put.j0 k l0 false a1_0 a1_1 a1_2 a1_3) else ((spec_l10Full.f k l0 a1_0).bind fun t589 => (spec_l10Put.j0 k l0 t589 a1_0 a1_1 a1_2 a1_3))) else (spec_l10Put.j0 k l0 true a1_0 a1_1 a1_2 a1_3)))) = some (r1, r2) := by rw [if_pos rfl] at H; exact H
      clear H
      have H := H1
      clear H1
      by_cases c9 : t585.toList = ([] : List UInt8)
      · rw [if_pos c9] at H
        have c9b0 : (t585.toList == ([] : List UInt8)) = true := beq_iff_eq.mpr c9
        have c9b1 : (t585.toList != ([] : List UInt8)) = false := bne_eq_false_iff_eq.mpr c9
        clear c9
        (first | rw [c9b0] | (simp only [i64_w, i32_w]; rw [c9b0]) | skip)
        by_cases c10 : a1_1 = 1
        · rw [if_pos c10] at H
          have c10b0 : (a1_1 == 1) = true := beq_iff_eq.mpr c10
          have c10b1 : (a1_1 != 1) = false := bne_eq_false_iff_eq.mpr c10
          clear c10
          have H' := Aside0.mk H
          clear H
          have hcz11_0 : w5.cell? ⟨gb584, 0, none⟩ = some (.string a1_0) := (blk_cell BK584.out 0).trans rfl
          have hcz11_1 : w5.cell? ⟨gb584, 1, none⟩ = some (.int .i64 a1_1) := (blk_cell BK584.out 1).trans rfl
          have hcz11_2 : w5.cell? ⟨gb584, 2, none⟩ = some (.string a1_2) := (blk_cell BK584.out 2).trans rfl
          have hcz11_3 : w5.cell? ⟨gb584, 3, none⟩ = some (.bool a1_3) := (blk_cell BK584.out 3).trans rfl
          have hfz11_0 := blk_frozen BK584.out 0
          have hfz11_1 := blk_frozen BK584.out 1
          have hfz11_2 := blk_frozen BK584.out 2
          have hfz11_3 := blk_frozen BK584.out 3
          go_wp2_with (first | (go_at_call 79; (with_reducible refine (spec_l10EntryOk.calls k a1_0 a1_1 a1_2 a1_3 true _ A7.out).mono ?_); rintro e w12 ⟨rfl, hb⟩; have n0_ := Aside0.mk (blk_below (g := gb584) (o := .cells #[.string a1_0, .int .i64 a1_1, .string a1_2, .bool a1_3] 47 (0, 0)) (by (with_reducible repeat (first | refine blk_drewN ?_ _ | refine blk_drew ?_ | refine blk_alloc ?_ _)); exact BK584.out) hb); have n1_ := Aside0.mk (below_step (by repeat (first | (with_reducible first | exact HB.out | apply below_alloc | apply pw_below_drewN | apply below_drew1 | refine below_set ?_ GE584.out) | exact HB.out)) hb); clear BK584; clear HB; have BK584 := n0_; have HB := n1_; clear n0_ n1_; (try clear hb); (try clear hb2); (try clear hk); (try clear hi); have hcz13_0 : w12.cell? ⟨gb584, 0, none⟩ = some (.string a1_0) := (blk_cell BK584.out 0).trans rfl; have hcz13_1 : w12.cell? ⟨gb584, 1, none⟩ = some (.int .i64 a1_1) := (blk_cell BK584.out 1).trans rfl; have hcz13_2 : w12.cell? ⟨gb584, 2, none⟩ = some (.string a1_2) := (blk_cell BK584.out 2).trans rfl; have hcz13_3 : w12.cell? ⟨gb584, 3, none⟩ = some (.bool a1_3) := (blk_cell BK584.out 3).trans rfl; have hfz13_0 := blk_frozen BK584.out 0; have hfz13_1 := blk_frozen BK584.out 1; have hfz13_2 := blk_frozen BK584.out 2; have hfz13_3 := blk_frozen BK584.out 3))
          repeat (go_quiet (first | (go_at_call 79; (with_reducible refine (spec_l10EntryOk.calls k a1_0 a1_1 a1_2 a1_3 true _ A7.out).mono ?_); rintro e w12 ⟨rfl, hb⟩; have n0_ := Aside0.mk (blk_below (g := gb584) (o := .cells #[.string a1_0, .int .i64 a1_1, .string a1_2, .bool a1_3] 47 (0, 0)) (by (with_reducible repeat (first | refine blk_drewN ?_ _ | refine blk_drew ?_ | refine blk_alloc ?_ _)); exact BK584.out) hb); have n1_ := Aside0.mk (below_step (by repeat (first | (with_reducible first | exact HB.out | apply below_alloc | apply pw_below_drewN | apply below_drew1 | refine below_set ?_ GE584.out) | exact HB.out)) hb); clear BK584; clear HB; have BK584 := n0_; have HB := n1_; clear n0_ n1_; (try clear hb); (try clear hb2); (try clear hk); (try clear hi); have hcz13_0 : w12.cell? ⟨gb584, 0, none⟩ = some (.string a1_0) := (blk_cell BK584.out 0).trans rfl; have hcz13_1 : w12.cell? ⟨gb584, 1, none⟩ = some (.int .i64 a1_1) := (blk_cell BK584.out 1).trans rfl; have hcz13_2 : w12.cell? ⟨gb584, 2, none⟩ = some (.string a1_2) := (blk_cell BK584.out 2).trans rfl; have hcz13_3 : w12.cell? ⟨gb584, 3, none⟩ = some (.bool a1_3) := (blk_cell BK584.out 3).trans rfl; have hfz13_0 := blk_frozen BK584.out 0; have hfz13_1 := blk_frozen BK584.out 1; have hfz13_2 := blk_frozen BK584.out 2; have hfz13_3 := blk_frozen BK584.out 3)); try go_wp2_with (first | (go_at_call 79; (with_reducible refine (spec_l10EntryOk.calls k a1_0 a1_1 a1_2 a1_3 true _ A7.out).mono ?_); rintro e w12 ⟨rfl, hb⟩; have n0_ := Aside0.mk (blk_below (g := gb584) (o := .cells #[.string a1_0, .int .i64 a1_1, .string a1_2, .bool a1_3] 47 (0, 0)) (by (with_reducible repeat (first | refine blk_drewN ?_ _ | refine blk_drew ?_ | refine blk_alloc ?_ _)); exact BK584.out) hb); have n1_ := Aside0.mk (below_step (by repeat (first | (with_reducible first | exact HB.out | apply below_alloc | apply pw_below_drewN | apply below_drew1 | refine below_set ?_ GE584.out) | exact HB.out)) hb); clear BK584; clear HB; have BK584 := n0_; have HB := n1_; clear n0_ n1_; (try clear hb); (try clear hb2); (try clear hk); (try clear hi); have hcz13_0 : w12.cell? ⟨gb584, 0, none⟩ = some (.string a1_0) := (blk_cell BK584.out 0).trans rfl; have hcz13_1 : w12.cell? ⟨gb584, 1, none⟩ = some (.int .i64 a1_1) := (blk_cell BK584.out 1).trans rfl; have hcz13_2 : w12.cell? ⟨gb584, 2, none⟩ = some (.string a1_2) := (blk_cell BK584.out 2).trans rfl; have hcz13_3 : w12.cell? ⟨gb584, 3, none⟩ = some (.bool a1_3) := (blk_cell BK584.out 3).trans rfl; have hfz13_0 := blk_frozen BK584.out 0; have hfz13_1 := blk_frozen BK584.out 1; have hfz13_2 := blk_frozen BK584.out 2; have hfz13_3 := blk_frozen BK584.out 3)))
          go_meet
          case rel => exact ⟨_, (false), (by first | rfl | (simp; done) | (simp [*]; done)), H', ⟨by first | omega | exact Nat.le_refl _⟩, ⟨by (with_reducible repeat (first | refine blk_drewN ?_ _ | refine blk_drew ?_ | refine blk_alloc ?_ _)); exact BK584.out⟩, ⟨by repeat (first | (with_reducible first | exact HB.out | apply below_alloc | apply pw_below_drewN | apply below_drew1 | refine below_set ?_ GE584.out) | exact HB.out)⟩⟩
        · rw [if_neg c10] at H
          have c10b0 : (a1_1 == 1) = false := beq_eq_false_iff_ne.mpr c10
          have c10b1 : (a1_1 != 1) = true := bne_iff_ne.mpr c10
          replace H := Option.bind_eq_some_iff.mp H
          obtain ⟨t587, A140, H⟩ := H
          replace H : (spec_l10Put.j0 k l0 t587 a1_0 a1_1 a1_2 a1_3) = some (r1, r2) := H
          have A14 := Aside0.mk A140
          clear A140
          have H' := Aside0.mk H
          clear H
          have hcz15_0 : w5.cell? ⟨gb584, 0, none⟩ = some (.string a1_0) := (blk_cell BK584.out 0).trans rfl
          have hcz15_1 : w5.cell? ⟨gb584, 1, none⟩ = some (.int .i64 a1_1) := (blk_cell BK584.out 1).trans rfl
          have hcz15_2 : w5.cell? ⟨gb584, 2, none⟩ = some (.string a1_2) := (blk_cell BK584.out 2).trans rfl
          have hcz15_3 : w5.cell? ⟨gb584, 3, none⟩ = some (.bool a1_3) := (blk_cell BK584.out 3).trans rfl
          have hfz15_0 := blk_frozen BK584.out 0
          have hfz15_1 := blk_frozen BK584.out 1
          have hfz15_2 := blk_frozen BK584.out 2
          have hfz15_3 := blk_frozen BK584.out 3
          go_wp2_with (first | (go_at_call 79; (with_reducible refine (spec_l10EntryOk.calls k a1_0 a1_1 a1_2 a1_3 true _ A7.out).mono ?_); rintro e w16 ⟨rfl, hb⟩; have n0_ := Aside0.mk (blk_below (g := gb584) (o := .cells #[.string a1_0, .int .i64 a1_1, .string a1_2, .bool a1_3] 47 (0, 0)) (by (with_reducible repeat (first | refine blk_drewN ?_ _ | refine blk_drew ?_ | refine blk_alloc ?_ _)); exact BK584.out) hb); have n1_ := Aside0.mk (below_step (by repeat (first | (with_reducible first | exact HB.out | apply below_alloc | apply pw_below_drewN | apply below_drew1 | refine below_set ?_ GE584.out) | exact HB.out)) hb); clear BK584; clear HB; have BK584 := n0_; have HB := n1_; clear n0_ n1_; (try clear hb); (try clear hb2); (try clear hk); (try clear hi); have hcz17_0 : w16.cell? ⟨gb584, 0, none⟩ = some (.string a1_0) := (blk_cell BK584.out 0).trans rfl; have hcz17_1 : w16.cell? ⟨gb584, 1, none⟩ = some (.int .i64 a1_1) := (blk_cell BK584.out 1).trans rfl; have hcz17_2 : w16.cell? ⟨gb584, 2, none⟩ = some (.string a1_2) := (blk_cell BK584.out 2).trans rfl; have hcz17_3 : w16.cell? ⟨gb584, 3, none⟩ = some (.bool a1_3) := (blk_cell BK584.out 3).trans rfl; have hfz17_0 := blk_frozen BK584.out 0; have hfz17_1 := blk_frozen BK584.out 1; have hfz17_2 := blk_frozen BK584.out 2; have hfz17_3 := blk_frozen BK584.out 3) | (go_at_call 94; (with_reducible refine (spec_l10Full.calls k _ _ l0 a1_0 t587 _ ?side1 ?side2 A14.out).mono ?_); (case side1 => repeat (first | exact (Kd.C_below HR0.out HB.out) | (with_reducible refine Kd.C_alloc ?_ _) | (with_reducible refine Kd.C_drewN ?_ _) | (with_reducible refine Kd.C_drew ?_))); (case side2 => exact HC0.out); rintro e w' ⟨rfl, ⟨nd, rfl⟩⟩; (try first | exact ⟨rfl, _, World.drewN_drewN _ _ _⟩ | exact ⟨rfl, _, Eq.trans (World.drewN_drewN _ _ _) (congrArg (World.drewN _) (Nat.add_assoc _ _ _))⟩)))
          repeat (go_quiet (first | (go_at_call 79; (with_reducible refine (spec_l10EntryOk.calls k a1_0 a1_1 a1_2 a1_3 true _ A7.out).mono ?_); rintro e w16 ⟨rfl, hb⟩; have n0_ := Aside0.mk (blk_below (g := gb584) (o := .cells #[.string a1_0, .int .i64 a1_1, .string a1_2, .bool a1_3] 47 (0, 0)) (by (with_reducible repeat (first | refine blk_drewN ?_ _ | refine blk_drew ?_ | refine blk_alloc ?_ _)); exact BK584.out) hb); have n1_ := Aside0.mk (below_step (by repeat (first | (with_reducible first | exact HB.out | apply below_alloc | apply pw_below_drewN | apply below_drew1 | refine below_set ?_ GE584.out) | exact HB.out)) hb); clear BK584; clear HB; have BK584 := n0_; have HB := n1_; clear n0_ n1_; (try clear hb); (try clear hb2); (try clear hk); (try clear hi); have hcz17_0 : w16.cell? ⟨gb584, 0, none⟩ = some (.string a1_0) := (blk_cell BK584.out 0).trans rfl; have hcz17_1 : w16.cell? ⟨gb584, 1, none⟩ = some (.int .i64 a1_1) := (blk_cell BK584.out 1).trans rfl; have hcz17_2 : w16.cell? ⟨gb584, 2, none⟩ = some (.string a1_2) := (blk_cell BK584.out 2).trans rfl; have hcz17_3 : w16.cell? ⟨gb584, 3, none⟩ = some (.bool a1_3) := (blk_cell BK584.out 3).trans rfl; have hfz17_0 := blk_frozen BK584.out 0; have hfz17_1 := blk_frozen BK584.out 1; have hfz17_2 := blk_frozen BK584.out 2; have hfz17_3 := blk_frozen BK584.out 3) | (go_at_call 94; (with_reducible refine (spec_l10Full.calls k _ _ l0 a1_0 t587 _ ?side1 ?side2 A14.out).mono ?_); (case side1 => repeat (first | exact (Kd.C_below HR0.out HB.out) | (with_reducible refine Kd.C_alloc ?_ _) | (with_reducible refine Kd.C_drewN ?_ _) | (with_reducible refine Kd.C_drew ?_))); (case side2 => exact HC0.out); rintro e w' ⟨rfl, ⟨nd, rfl⟩⟩; (try first | exact ⟨rfl, _, World.drewN_drewN _ _ _⟩ | exact ⟨rfl, _, Eq.trans (World.drewN_drewN _ _ _) (congrArg (World.drewN _) (Nat.add_assoc _ _ _))⟩))); try go_wp2_with (first | (go_at_call 79; (with_reducible refine (spec_l10EntryOk.calls k a1_0 a1_1 a1_2 a1_3 true _ A7.out).mono ?_); rintro e w16 ⟨rfl, hb⟩; have n0_ := Aside0.mk (blk_below (g := gb584) (o := .cells #[.string a1_0, .int .i64 a1_1, .string a1_2, .bool a1_3] 47 (0, 0)) (by (with_reducible repeat (first | refine blk_drewN ?_ _ | refine blk_drew ?_ | refine blk_alloc ?_ _)); exact BK584.out) hb); have n1_ := Aside0.mk (below_step (by repeat (first | (with_reducible first | exact HB.out | apply below_alloc | apply pw_below_drewN | apply below_drew1 | refine below_set ?_ GE584.out) | exact HB.out)) hb); clear BK584; clear HB; have BK584 := n0_; have HB := n1_; clear n0_ n1_; (try clear hb); (try clear hb2); (try clear hk); (try clear hi); have hcz17_0 : w16.cell? ⟨gb584, 0, none⟩ = some (.string a1_0) := (blk_cell BK584.out 0).trans rfl; have hcz17_1 : w16.cell? ⟨gb584, 1, none⟩ = some (.int .i64 a1_1) := (blk_cell BK584.out 1).trans rfl; have hcz17_2 : w16.cell? ⟨gb584, 2, none⟩ = some (.string a1_2) := (blk_cell BK584.out 2).trans rfl; have hcz17_3 : w16.cell? ⟨gb584, 3, none⟩ = some (.bool a1_3) := (blk_cell BK584.out 3).trans rfl; have hfz17_0 := blk_frozen BK584.out 0; have hfz17_1 := blk_frozen BK584.out 1; have hfz17_2 := blk_frozen BK584.out 2; have hfz17_3 := blk_frozen BK584.out 3) | (go_at_call 94; (with_reducible refine (spec_l10Full.calls k _ _ l0 a1_0 t587 _ ?side1 ?side2 A14.out).mono ?_); (case side1 => repeat (first | exact (Kd.C_below HR0.out HB.out) | (with_reducible refine Kd.C_alloc ?_ _) | (with_reducible refine Kd.C_drewN ?_ _) | (with_reducible refine Kd.C_drew ?_))); (case side2 => exact HC0.out); rintro e w' ⟨rfl, ⟨nd, rfl⟩⟩; (try first | exact ⟨rfl, _, World.drewN_drewN _ _ _⟩ | exact ⟨rfl, _, Eq.trans (World.drewN_drewN _ _ _) (congrArg (World.drewN _) (Nat.add_assoc _ _ _))⟩))))
          go_meet
          case rel => exact ⟨_, (t587), (by first | rfl | (simp; done) | (simp [*]; done)), H', ⟨by first | omega | exact Nat.le_refl _⟩, ⟨by (with_reducible repeat (first | refine blk_drewN ?_ _ | refine blk_drew ?_ | refine blk_alloc ?_ _)); exact BK584.out⟩, ⟨by repeat (first | (with_reducible first | exact HB.out | apply below_alloc | apply pw_below_drewN | apply below_drew1 | refine below_set ?_ GE584.out) | exact HB.out)⟩⟩
      · rw [if_neg c9] at H
        have c9b0 : (t585.toList == ([] : List UInt8)) = false := beq_eq_false_iff_ne.mpr c9
        have c9b1 : (t585.toList != ([] : List UInt8)) = true := bne_iff_ne.mpr c9
        (first | rw [c9b0] | (simp only [i64_w, i32_w]; rw [c9b0]) | skip)
        replace H := Option.bind_eq_some_iff.mp H
        obtain ⟨t588, A180, H⟩ := H
        replace H : (if t588 = true then (if a1_1 = 1 then (spec_l10Put.j0 k l0 false a1_0 a1_1 a1_2 a1_3) else ((spec_l10Full.f k l0 a1_0).bind fun t589 => (spec_l10Put.j0 k l0 t589 a1_0 a1_1 a1_2 a1_3))) else (spec_l10Put.j0 k l0 true a1_0 a1_1 a1_2 a1_3)) = some (r1, r2) := H
        have A18 := Aside0.mk A180
        clear A180
        by_cases c19 : t588 = true
        · subst c19
          have H1 : (if a1_1 = 1 then (spec_l10Put.j0 k l0 false a1_0 a1_1 a1_2 a1_3) else ((spec_l10Full.f k l0 a1_0).bind fun t589 => (spec_l10Put.j0 k l0 t589 a1_0 a1_1 a1_2 a1_3))) = some (r1, r2) := by rw [if_pos rfl] at H; exact H
          clear H
          have H := H1
          clear H1
          by_cases c20 : a1_1 = 1
          · rw [if_pos c20] at H
            have c20b0 : (a1_1 == 1) = true := beq_iff_eq.mpr c20
            have c20b1 : (a1_1 != 1) = false := bne_eq_false_iff_eq.mpr c20
            clear c20
            have H' := Aside0.mk H
            clear H
            have hcz21_0 : w5.cell? ⟨gb584, 0, none⟩ = some (.string a1_0) := (blk_cell BK584.out 0).trans rfl
            have hcz21_1 : w5.cell? ⟨gb584, 1, none⟩ = some (.int .i64 a1_1) := (blk_cell BK584.out 1).trans rfl
            have hcz21_2 : w5.cell? ⟨gb584, 2, none⟩ = some (.string a1_2) := (blk_cell BK584.out 2).trans rfl
            have hcz21_3 : w5.cell? ⟨gb584, 3, none⟩ = some (.bool a1_3) := (blk_cell BK584.out 3).trans rfl
            have hfz21_0 := blk_frozen BK584.out 0
            have hfz21_1 := blk_frozen BK584.out 1
            have hfz21_2 := blk_frozen BK584.out 2
            have hfz21_3 := blk_frozen BK584.out 3
            go_wp2_with (first | (go_at_call 79; (with_reducible refine (spec_l10EntryOk.calls k a1_0 a1_1 a1_2 a1_3 true _ A7.out).mono ?_); rintro e w22 ⟨rfl, hb⟩; have n0_ := Aside0.mk (blk_below (g := gb584) (o := .cells #[.string a1_0, .int .i64 a1_1, .string a1_2, .bool a1_3] 47 (0, 0)) (by (with_reducible repeat (first | refine blk_drewN ?_ _ | refine blk_drew ?_ | refine blk_alloc ?_ _)); exact BK584.out) hb); have n1_ := Aside0.mk (below_step (by repeat (first | (with_reducible first | exact HB.out | apply below_alloc | apply pw_below_drewN | apply below_drew1 | refine below_set ?_ GE584.out) | exact HB.out)) hb); clear BK584; clear HB; have BK584 := n0_; have HB := n1_; clear n0_ n1_; (try clear hb); (try clear hb2); (try clear hk); (try clear hi)) | (go_at_call 52; (with_reducible refine (spec_l10Dir.calls k _ _ l0 t585 true _ ?side1 ?side2 A18.out).mono ?_); (case side1 => repeat (first | exact (Kd.C_below HR0.out HB.out) | (with_reducible refine Kd.C_alloc ?_ _) | (with_reducible refine Kd.C_drewN ?_ _) | (with_reducible refine Kd.C_drew ?_))); (case side2 => exact HC0.out); rintro e w' ⟨rfl, ⟨nd, rfl⟩⟩; (try first | exact ⟨rfl, _, World.drewN_drewN _ _ _⟩ | exact ⟨rfl, _, Eq.trans (World.drewN_drewN _ _ _) (congrArg (World.drewN _) (Nat.add_assoc _ _ _))⟩); have hcz23_0 : w22.cell? ⟨gb584, 0, none⟩ = some (.string a1_0) := (blk_cell BK584.out 0).trans rfl; have hcz23_1 : w22.cell? ⟨gb584, 1, none⟩ = some (.int .i64 a1_1) := (blk_cell BK584.out 1).trans rfl; have hcz23_2 : w22.cell? ⟨gb584, 2, none⟩ = some (.string a1_2) := (blk_cell BK584.out 2).trans rfl; have hcz23_3 : w22.cell? ⟨gb584, 3, none⟩ = some (.bool a1_3) := (blk_cell BK584.out 3).trans rfl; have hfz23_0 := blk_frozen BK584.out 0; have hfz23_1 := blk_frozen BK584.out 1; have hfz23_2 := blk_frozen BK584.out 2; have hfz23_3 := blk_frozen BK584.out 3))
            repeat (go_quiet (first | (go_at_call 79; (with_reducible refine (spec_l10EntryOk.calls k a1_0 a1_1 a1_2 a1_3 true _ A7.out).mono ?_); rintro e w22 ⟨rfl, hb⟩; have n0_ := Aside0.mk (blk_below (g := gb584) (o := .cells #[.string a1_0, .int .i64 a1_1, .string a1_2, .bool a1_3] 47 (0, 0)) (by (with_reducible repeat (first | refine blk_drewN ?_ _ | refine blk_drew ?_ | refine blk_alloc ?_ _)); exact BK584.out) hb); have n1_ := Aside0.mk (below_step (by repeat (first | (with_reducible first | exact HB.out | apply below_alloc | apply pw_below_drewN | apply below_drew1 | refine below_set ?_ GE584.out) | exact HB.out)) hb); clear BK584; clear HB; have BK584 := n0_; have HB := n1_; clear n0_ n1_; (try clear hb); (try clear hb2); (try clear hk); (try clear hi); (try clear A7)) | (go_at_call 52; (with_reducible refine (spec_l10Dir.calls k _ _ l0 t585 true _ ?side1 ?side2 A18.out).mono ?_); (case side1 => repeat (first | exact (Kd.C_below HR0.out HB.out) | (with_reducible refine Kd.C_alloc ?_ _) | (with_reducible refine Kd.C_drewN ?_ _) | (with_reducible refine Kd.C_drew ?_))); (case side2 => exact HC0.out); rintro e w' ⟨rfl, ⟨nd, rfl⟩⟩; (try first | exact ⟨rfl, _, World.drewN_drewN _ _ _⟩ | exact ⟨rfl, _, Eq.trans (World.drewN_drewN _ _ _) (congrArg (World.drewN _) (Nat.add_assoc _ _ _))⟩); have hcz23_0 : w22.cell? ⟨gb584, 0, none⟩ = some (.string a1_0) := (blk_cell BK584.out 0).trans rfl; have hcz23_1 : w22.cell? ⟨gb584, 1, none⟩ = some (.int .i64 a1_1) := (blk_cell BK584.out 1).trans rfl; have hcz23_2 : w22.cell? ⟨gb584, 2, none⟩ = some (.string a1_2) := (blk_cell BK584.out 2).trans rfl; have hcz23_3 : w22.cell? ⟨gb584, 3, none⟩ = some (.bool a1_3) := (blk_cell BK584.out 3).trans rfl; have hfz23_0 := blk_frozen BK584.out 0; have hfz23_1 := blk_frozen BK584.out 1; have hfz23_2 := blk_frozen BK584.out 2; have hfz23_3 := blk_frozen BK584.out 3)); try go_wp2_with (first | (go_at_call 79; (with_reducible refine (spec_l10EntryOk.calls k a1_0 a1_1 a1_2 a1_3 true _ A7.out).mono ?_); rintro e w22 ⟨rfl, hb⟩; have n0_ := Aside0.mk (blk_below (g := gb584) (o := .cells #[.string a1_0, .int .i64 a1_1, .string a1_2, .bool a1_3] 47 (0, 0)) (by (with_reducible repeat (first | refine blk_drewN ?_ _ | refine blk_drew ?_ | refine blk_alloc ?_ _)); exact BK584.out) hb); have n1_ := Aside0.mk (below_step (by repeat (first | (with_reducible first | exact HB.out | apply below_alloc | apply pw_below_drewN | apply below_drew1 | refine below_set ?_ GE584.out) | exact HB.out)) hb); clear BK584; clear HB; have BK584 := n0_; have HB := n1_; clear n0_ n1_; (try clear hb); (try clear hb2); (try clear hk); (try clear hi); (try clear A7)) | (go_at_call 52; (with_reducible refine (spec_l10Dir.calls k _ _ l0 t585 true _ ?side1 ?side2 A18.out).mono ?_); (case side1 => repeat (first | exact (Kd.C_below HR0.out HB.out) | (with_reducible refine Kd.C_alloc ?_ _) | (with_reducible refine Kd.C_drewN ?_ _) | (with_reducible refine Kd.C_drew ?_))); (case side2 => exact HC0.out); rintro e w' ⟨rfl, ⟨nd, rfl⟩⟩; (try first | exact ⟨rfl, _, World.drewN_drewN _ _ _⟩ | exact ⟨rfl, _, Eq.trans (World.drewN_drewN _ _ _) (congrArg (World.drewN _) (Nat.add_assoc _ _ _))⟩); have hcz23_0 : w22.cell? ⟨gb584, 0, none⟩ = some (.string a1_0) := (blk_cell BK584.out 0).trans rfl; have hcz23_1 : w22.cell? ⟨gb584, 1, none⟩ = some (.int .i64 a1_1) := (blk_cell BK584.out 1).trans rfl; have hcz23_2 : w22.cell? ⟨gb584, 2, none⟩ = some (.string a1_2) := (blk_cell BK584.out 2).trans rfl; have hcz23_3 : w22.cell? ⟨gb584, 3, none⟩ = some (.bool a1_3) := (blk_cell BK584.out 3).trans rfl; have hfz23_0 := blk_frozen BK584.out 0; have hfz23_1 := blk_frozen BK584.out 1; have hfz23_2 := blk_frozen BK584.out 2; have hfz23_3 := blk_frozen BK584.out 3)))
            go_meet
            case rel => exact ⟨_, (false), (by first | rfl | (simp; done) | (simp [*]; done)), H', ⟨by first | omega | exact Nat.le_refl _⟩, ⟨by (with_reducible repeat (first | refine blk_drewN ?_ _ | refine blk_drew ?_ | refine blk_alloc ?_ _)); exact BK584.out⟩, ⟨by repeat (first | (with_reducible first | exact HB.out | apply below_alloc | apply pw_below_drewN | apply below_drew1 | refine below_set ?_ GE584.out) | exact HB.out)⟩⟩
          · rw [if_neg c20] at H
            have c20b0 : (a1_1 == 1) = false := beq_eq_false_iff_ne.mpr c20
            have c20b1 : (a1_1 != 1) = true := bne_iff_ne.mpr c20
            replace H := Option.bind_eq_some_iff.mp H
            obtain ⟨t589, A240, H⟩ := H
            replace H : (spec_l10Put.j0 k l0 t589 a1_0 a1_1 a1_2 a1_3) = some (r1, r2) := H
            have A24 := Aside0.mk A240
            clear A240
            have H' := Aside0.mk H
            clear H
            have hcz25_0 : w5.cell? ⟨gb584, 0, none⟩ = some (.string a1_0) := (blk_cell BK584.out 0).trans rfl
            have hcz25_1 : w5.cell? ⟨gb584, 1, none⟩ = some (.int .i64 a1_1) := (blk_cell BK584.out 1).trans rfl
            have hcz25_2 : w5.cell? ⟨gb584, 2, none⟩ = some (.string a1_2) := (blk_cell BK584.out 2).trans rfl
            have hcz25_3 : w5.cell? ⟨gb584, 3, none⟩ = some (.bool a1_3) := (blk_cell BK584.out 3).trans rfl
            have hfz25_0 := blk_frozen BK584.out 0
            have hfz25_1 := blk_frozen BK584.out 1
            have hfz25_2 := blk_frozen BK584.out 2
            have hfz25_3 := blk_frozen BK584.out 3
            go_wp2_with (first | (go_at_call 79; (with_reducible refine (spec_l10EntryOk.calls k a1_0 a1_1 a1_2 a1_3 true _ A7.out).mono ?_); rintro e w26 ⟨rfl, hb⟩; have n0_ := Aside0.mk (blk_below (g := gb584) (o := .cells #[.string a1_0, .int .i64 a1_1, .string a1_2, .bool a1_3] 47 (0, 0)) (by (with_reducible repeat (first | refine blk_drewN ?_ _ | refine blk_drew ?_ | refine blk_alloc ?_ _)); exact BK584.out) hb); have n1_ := Aside0.mk (below_step (by repeat (first | (with_reducible first | exact HB.out | apply below_alloc | apply pw_below_drewN | apply below_drew1 | refine below_set ?_ GE584.out) | exact HB.out)) hb); clear BK584; clear HB; have BK584 := n0_; have HB := n1_; clear n0_ n1_; (try clear hb); (try clear hb2); (try clear hk); (try clear hi)) | (go_at_call 52; (with_reducible refine (spec_l10Dir.calls k _ _ l0 t585 true _ ?side1 ?side2 A18.out).mono ?_); (case side1 => repeat (first | exact (Kd.C_below HR0.out HB.out) | (with_reducible refine Kd.C_alloc ?_ _) | (with_reducible refine Kd.C_drewN ?_ _) | (with_reducible refine Kd.C_drew ?_))); (case side2 => exact HC0.out); rintro e w' ⟨rfl, ⟨nd, rfl⟩⟩; (try first | exact ⟨rfl, _, World.drewN_drewN _ _ _⟩ | exact ⟨rfl, _, Eq.trans (World.drewN_drewN _ _ _) (congrArg (World.drewN _) (Nat.add_assoc _ _ _))⟩); have hcz27_0 : w26.cell? ⟨gb584, 0, none⟩ = some (.string a1_0) := (blk_cell BK584.out 0).trans rfl; have hcz27_1 : w26.cell? ⟨gb584, 1, none⟩ = some (.int .i64 a1_1) := (blk_cell BK584.out 1).trans rfl; have hcz27_2 : w26.cell? ⟨gb584, 2, none⟩ = some (.string a1_2) := (blk_cell BK584.out 2).trans rfl; have hcz27_3 : w26.cell? ⟨gb584, 3, none⟩ = some (.bool a1_3) := (blk_cell BK584.out 3).trans rfl; have hfz27_0 := blk_frozen BK584.out 0; have hfz27_1 := blk_frozen BK584.out 1; have hfz27_2 := blk_frozen BK584.out 2; have hfz27_3 := blk_frozen BK584.out 3) | (go_at_call 94; (with_reducible refine (spec_l10Full.calls k _ _ l0 a1_0 t589 _ ?side1 ?side2 A24.out).mono ?_); (case side1 => repeat (first | exact (Kd.C_below HR0.out (by repeat (first | (with_reducible first | exact HB.out | apply below_alloc | apply pw_below_drewN | apply below_drew1 | refine below_set ?_ GE584.out) | exact HB.out))) | (with_reducible refine Kd.C_alloc ?_ _) | (with_reducible refine Kd.C_drewN ?_ _) | (with_reducible refine Kd.C_drew ?_))); (case side2 => exact HC0.out); rintro e w' ⟨rfl, ⟨nd, rfl⟩⟩; (try first | exact ⟨rfl, _, World.drewN_drewN _ _ _⟩ | exact ⟨rfl, _, Eq.trans (World.drewN_drewN _ _ _) (congrArg (World.drewN _) (Nat.add_assoc _ _ _))⟩)))
            repeat (go_quiet (first | (go_at_call 79; (with_reducible refine (spec_l10EntryOk.calls k a1_0 a1_1 a1_2 a1_3 true _ A7.out).mono ?_); rintro e w26 ⟨rfl, hb⟩; have n0_ := Aside0.mk (blk_below (g := gb584) (o := .cells #[.string a1_0, .int .i64 a1_1, .string a1_2, .bool a1_3] 47 (0, 0)) (by (with_reducible repeat (first | refine blk_drewN ?_ _ | refine blk_drew ?_ | refine blk_alloc ?_ _)); exact BK584.out) hb); have n1_ := Aside0.mk (below_step (by repeat (first | (with_reducible first | exact HB.out | apply below_alloc | apply pw_below_drewN | apply below_drew1 | refine below_set ?_ GE584.out) | exact HB.out)) hb); clear BK584; clear HB; have BK584 := n0_; have HB := n1_; clear n0_ n1_; (try clear hb); (try clear hb2); (try clear hk); (try clear hi); (try clear A7)) | (go_at_call 52; (with_reducible refine (spec_l10Dir.calls k _ _ l0 t585 true _ ?side1 ?side2 A18.out).mono ?_); (case side1 => repeat (first | exact (Kd.C_below HR0.out HB.out) | (with_reducible refine Kd.C_alloc ?_ _) | (with_reducible refine Kd.C_drewN ?_ _) | (with_reducible refine Kd.C_drew ?_))); (case side2 => exact HC0.out); rintro e w' ⟨rfl, ⟨nd, rfl⟩⟩; (try first | exact ⟨rfl, _, World.drewN_drewN _ _ _⟩ | exact ⟨rfl, _, Eq.trans (World.drewN_drewN _ _ _) (congrArg (World.drewN _) (Nat.add_assoc _ _ _))⟩); have hcz27_0 : w26.cell? ⟨gb584, 0, none⟩ = some (.string a1_0) := (blk_cell BK584.out 0).trans rfl; have hcz27_1 : w26.cell? ⟨gb584, 1, none⟩ = some (.int .i64 a1_1) := (blk_cell BK584.out 1).trans rfl; have hcz27_2 : w26.cell? ⟨gb584, 2, none⟩ = some (.string a1_2) := (blk_cell BK584.out 2).trans rfl; have hcz27_3 : w26.cell? ⟨gb584, 3, none⟩ = some (.bool a1_3) := (blk_cell BK584.out 3).trans rfl; have hfz27_0 := blk_frozen BK584.out 0; have hfz27_1 := blk_frozen BK584.out 1; have hfz27_2 := blk_frozen BK584.out 2; have hfz27_3 := blk_frozen BK584.out 3) | (go_at_call 94; (with_reducible refine (spec_l10Full.calls k _ _ l0 a1_0 t589 _ ?side1 ?side2 A24.out).mono ?_); (case side1 => repeat (first | exact (Kd.C_below HR0.out (by repeat (first | (with_reducible first | exact HB.out | apply below_alloc | apply pw_below_drewN | apply below_drew1 | refine below_set ?_ GE584.out) | exact HB.out))) | (with_reducible refine Kd.C_alloc ?_ _) | (with_reducible refine Kd.C_drewN ?_ _) | (with_reducible refine Kd.C_drew ?_))); (case side2 => exact HC0.out); rintro e w' ⟨rfl, ⟨nd, rfl⟩⟩; (try first | exact ⟨rfl, _, World.drewN_drewN _ _ _⟩ | exact ⟨rfl, _, Eq.trans (World.drewN_drewN _ _ _) (congrArg (World.drewN _) (Nat.add_assoc _ _ _))⟩))); try go_wp2_with (first | (go_at_call 79; (with_reducible refine (spec_l10EntryOk.calls k a1_0 a1_1 a1_2 a1_3 true _ A7.out).mono ?_); rintro e w26 ⟨rfl, hb⟩; have n0_ := Aside0.mk (blk_below (g := gb584) (o := .cells #[.string a1_0, .int .i64 a1_1, .string a1_2, .bool a1_3] 47 (0, 0)) (by (with_reducible repeat (first | refine blk_drewN ?_ _ | refine blk_drew ?_ | refine blk_alloc ?_ _)); exact BK584.out) hb); have n1_ := Aside0.mk (below_step (by repeat (first | (with_reducible first | exact HB.out | apply below_alloc | apply pw_below_drewN | apply below_drew1 | refine below_set ?_ GE584.out) | exact HB.out)) hb); clear BK584; clear HB; have BK584 := n0_; have HB := n1_; clear n0_ n1_; (try clear hb); (try clear hb2); (try clear hk); (try clear hi); (try clear A7)) | (go_at_call 52; (with_reducible refine (spec_l10Dir.calls k _ _ l0 t585 true _ ?side1 ?side2 A18.out).mono ?_); (case side1 => repeat (first | exact (Kd.C_below HR0.out HB.out) | (with_reducible refine Kd.C_alloc ?_ _) | (with_reducible refine Kd.C_drewN ?_ _) | (with_reducible refine Kd.C_drew ?_))); (case side2 => exact HC0.out); rintro e w' ⟨rfl, ⟨nd, rfl⟩⟩; (try first | exact ⟨rfl, _, World.drewN_drewN _ _ _⟩ | exact ⟨rfl, _, Eq.trans (World.drewN_drewN _ _ _) (congrArg (World.drewN _) (Nat.add_assoc _ _ _))⟩); have hcz27_0 : w26.cell? ⟨gb584, 0, none⟩ = some (.string a1_0) := (blk_cell BK584.out 0).trans rfl; have hcz27_1 : w26.cell? ⟨gb584, 1, none⟩ = some (.int .i64 a1_1) := (blk_cell BK584.out 1).trans rfl; have hcz27_2 : w26.cell? ⟨gb584, 2, none⟩ = some (.string a1_2) := (blk_cell BK584.out 2).trans rfl; have hcz27_3 : w26.cell? ⟨gb584, 3, none⟩ = some (.bool a1_3) := (blk_cell BK584.out 3).trans rfl; have hfz27_0 := blk_frozen BK584.out 0; have hfz27_1 := blk_frozen BK584.out 1; have hfz27_2 := blk_frozen BK584.out 2; have hfz27_3 := blk_frozen BK584.out 3) | (go_at_call 94; (with_reducible refine (spec_l10Full.calls k _ _ l0 a1_0 t589 _ ?side1 ?side2 A24.out).mono ?_); (case side1 => repeat (first | exact (Kd.C_below HR0.out (by repeat (first | (with_reducible first | exact HB.out | apply below_alloc | apply pw_below_drewN | apply below_drew1 | refine below_set ?_ GE584.out) | exact HB.out))) | (with_reducible refine Kd.C_alloc ?_ _) | (with_reducible refine Kd.C_drewN ?_ _) | (with_reducible refine Kd.C_drew ?_))); (case side2 => exact HC0.out); rintro e w' ⟨rfl, ⟨nd, rfl⟩⟩; (try first | exact ⟨rfl, _, World.drewN_drewN _ _ _⟩ | exact ⟨rfl, _, Eq.trans (World.drewN_drewN _ _ _) (congrArg (World.drewN _) (Nat.add_assoc _ _ _))⟩))))
            go_meet
            case rel => exact ⟨_, (t589), (by first | rfl | (simp; done) | (simp [*]; done)), H', ⟨by first | omega | exact Nat.le_refl _⟩, ⟨by (with_reducible repeat (first | refine blk_drewN ?_ _ | refine blk_drew ?_ | refine blk_alloc ?_ _)); exact BK584.out⟩, ⟨by repeat (first | (with_reducible first | exact HB.out | apply below_alloc | apply pw_below_drewN | apply below_drew1 | refine below_set ?_ GE584.out) | exact HB.out)⟩⟩
        · replace c19 := Bool.eq_false_iff.mpr c19
          subst c19
          have H1 : (spec_l10Put.j0 k l0 true a1_0 a1_1 a1_2 a1_3) = some (r1, r2) := by rw [if_neg (show ¬ (false = true) by decide)] at H; exact H
          clear H
          have H := H1
          clear H1
          have H' := Aside0.mk H
          clear H
          have hcz28_0 : w5.cell? ⟨gb584, 0, none⟩ = some (.string a1_0) := (blk_cell BK584.out 0).trans rfl
          have hcz28_1 : w5.cell? ⟨gb584, 1, none⟩ = some (.int .i64 a1_1) := (blk_cell BK584.out 1).trans rfl
          have hcz28_2 : w5.cell? ⟨gb584, 2, none⟩ = some (.string a1_2) := (blk_cell BK584.out 2).trans rfl
          have hcz28_3 : w5.cell? ⟨gb584, 3, none⟩ = some (.bool a1_3) := (blk_cell BK584.out 3).trans rfl
          have hfz28_0 := blk_frozen BK584.out 0
          have hfz28_1 := blk_frozen BK584.out 1
          have hfz28_2 := blk_frozen BK584.out 2
          have hfz28_3 := blk_frozen BK584.out 3
          go_wp2_with (first | (go_at_call 79; (with_reducible refine (spec_l10EntryOk.calls k a1_0 a1_1 a1_2 a1_3 true _ A7.out).mono ?_); rintro e w29 ⟨rfl, hb⟩; have n0_ := Aside0.mk (blk_below (g := gb584) (o := .cells #[.string a1_0, .int .i64 a1_1, .string a1_2, .bool a1_3] 47 (0, 0)) (by (with_reducible repeat (first | refine blk_drewN ?_ _ | refine blk_drew ?_ | refine blk_alloc ?_ _)); exact BK584.out) hb); have n1_ := Aside0.mk (below_step (by repeat (first | (with_reducible first | exact HB.out | apply below_alloc | apply pw_below_drewN | apply below_drew1 | refine below_set ?_ GE584.out) | exact HB.out)) hb); clear BK584; clear HB; have BK584 := n0_; have HB := n1_; clear n0_ n1_; (try clear hb); (try clear hb2); (try clear hk); (try clear hi)) | (go_at_call 52; (with_reducible refine (spec_l10Dir.calls k _ _ l0 t585 false _ ?side1 ?side2 A18.out).mono ?_); (case side1 => repeat (first | exact (Kd.C_below HR0.out HB.out) | (with_reducible refine Kd.C_alloc ?_ _) | (with_reducible refine Kd.C_drewN ?_ _) | (with_reducible refine Kd.C_drew ?_))); (case side2 => exact HC0.out); rintro e w' ⟨rfl, ⟨nd, rfl⟩⟩; (try first | exact ⟨rfl, _, World.drewN_drewN _ _ _⟩ | exact ⟨rfl, _, Eq.trans (World.drewN_drewN _ _ _) (congrArg (World.drewN _) (Nat.add_assoc _ _ _))⟩)))
          repeat (go_quiet (first | (go_at_call 79; (with_reducible refine (spec_l10EntryOk.calls k a1_0 a1_1 a1_2 a1_3 true _ A7.out).mono ?_); rintro e w29 ⟨rfl, hb⟩; have n0_ := Aside0.mk (blk_below (g := gb584) (o := .cells #[.string a1_0, .int .i64 a1_1, .string a1_2, .bool a1_3] 47 (0, 0)) (by (with_reducible repeat (first | refine blk_drewN ?_ _ | refine blk_drew ?_ | refine blk_alloc ?_ _)); exact BK584.out) hb); have n1_ := Aside0.mk (below_step (by repeat (first | (with_reducible first | exact HB.out | apply below_alloc | apply pw_below_drewN | apply below_drew1 | refine below_set ?_ GE584.out) | exact HB.out)) hb); clear BK584; clear HB; have BK584 := n0_; have HB := n1_; clear n0_ n1_; (try clear hb); (try clear hb2); (try clear hk); (try clear hi); (try clear A7)) | (go_at_call 52; (with_reducible refine (spec_l10Dir.calls k _ _ l0 t585 false _ ?side1 ?side2 A18.out).mono ?_); (case side1 => repeat (first | exact (Kd.C_below HR0.out HB.out) | (with_reducible refine Kd.C_alloc ?_ _) | (with_reducible refine Kd.C_drewN ?_ _) | (with_reducible refine Kd.C_drew ?_))); (case side2 => exact HC0.out); rintro e w' ⟨rfl, ⟨nd, rfl⟩⟩; (try first | exact ⟨rfl, _, World.drewN_drewN _ _ _⟩ | exact ⟨rfl, _, Eq.trans (World.drewN_drewN _ _ _) (congrArg (World.drewN _) (Nat.add_assoc _ _ _))⟩))); try go_wp2_with (first | (go_at_call 79; (with_reducible refine (spec_l10EntryOk.calls k a1_0 a1_1 a1_2 a1_3 true _ A7.out).mono ?_); rintro e w29 ⟨rfl, hb⟩; have n0_ := Aside0.mk (blk_below (g := gb584) (o := .cells #[.string a1_0, .int .i64 a1_1, .string a1_2, .bool a1_3] 47 (0, 0)) (by (with_reducible repeat (first | refine blk_drewN ?_ _ | refine blk_drew ?_ | refine blk_alloc ?_ _)); exact BK584.out) hb); have n1_ := Aside0.mk (below_step (by repeat (first | (with_reducible first | exact HB.out | apply below_alloc | apply pw_below_drewN | apply below_drew1 | refine below_set ?_ GE584.out) | exact HB.out)) hb); clear BK584; clear HB; have BK584 := n0_; have HB := n1_; clear n0_ n1_; (try clear hb); (try clear hb2); (try clear hk); (try clear hi); (try clear A7)) | (go_at_call 52; (with_reducible refine (spec_l10Dir.calls k _ _ l0 t585 false _ ?side1 ?side2 A18.out).mono ?_); (case side1 => repeat (first | exact (Kd.C_below HR0.out HB.out) | (with_reducible refine Kd.C_alloc ?_ _) | (with_reducible refine Kd.C_drewN ?_ _) | (with_reducible refine Kd.C_drew ?_))); (case side2 => exact HC0.out); rintro e w' ⟨rfl, ⟨nd, rfl⟩⟩; (try first | exact ⟨rfl, _, World.drewN_drewN _ _ _⟩ | exact ⟨rfl, _, Eq.trans (World.drewN_drewN _ _ _) (congrArg (World.drewN _) (Nat.add_assoc _ _ _))⟩))))
          go_meet
          case rel => exact ⟨_, (true), (by first | rfl | (simp; done) | (simp [*]; done)), H', ⟨by first | omega | exact Nat.le_refl _⟩, ⟨by (with_reducible repeat (first | refine blk_drewN ?_ _ | refine blk_drew ?_ | refine blk_alloc ?_ _)); exact BK584.out⟩, ⟨by repeat (first | (with_reducible first | exact HB.out | apply below_alloc | apply pw_below_drewN | apply below_drew1 | refine below_set ?_ GE584.out) | exact HB.out)⟩⟩
    · replace c8 := Bool.eq_false_iff.mpr c8
      subst c8
      have H1 : (spec_l10Put.j0 k l0 true a1_0 a1_1 a1_2 a1_3) = some (r1, r2) := by rw [if_neg (show ¬ (false = true) by decide)] at H; exact H
      clear H
      have H := H1
      clear H1
      have H' := Aside0.mk H
      clear H
      have hcz30_0 : w5.cell? ⟨gb584, 0, none⟩ = some (.string a1_0) := (blk_cell BK584.out 0).trans rfl
      have hcz30_1 : w5.cell? ⟨gb584, 1, none⟩ = some (.int .i64 a1_1) := (blk_cell BK584.out 1).trans rfl
      have hcz30_2 : w5.cell? ⟨gb584, 2, none⟩ = some (.string a1_2) := (blk_cell BK584.out 2).trans rfl
      have hcz30_3 : w5.cell? ⟨gb584, 3, none⟩ = some (.bool a1_3) := (blk_cell BK584.out 3).trans rfl
      have hfz30_0 := blk_frozen BK584.out 0
      have hfz30_1 := blk_frozen BK584.out 1
      have hfz30_2 := blk_frozen BK584.out 2
      have hfz30_3 := blk_frozen BK584.out 3
      go_wp2_with (first | (go_at_call 79; (with_reducible refine (spec_l10EntryOk.calls k a1_0 a1_1 a1_2 a1_3 false _ A7.out).mono ?_); rintro e w31 ⟨rfl, hb⟩; have n0_ := Aside0.mk (blk_below (g := gb584) (o := .cells #[.string a1_0, .int .i64 a1_1, .string a1_2, .bool a1_3] 47 (0, 0)) (by (with_reducible repeat (first | refine blk_drewN ?_ _ | refine blk_drew ?_ | refine blk_alloc ?_ _)); exact BK584.out) hb); have n1_ := Aside0.mk (below_step (by repeat (first | (with_reducible first | exact HB.out | apply below_alloc | apply pw_below_drewN | apply below_drew1 | refine below_set ?_ GE584.out) | exact HB.out)) hb); clear BK584; clear HB; have BK584 := n0_; have HB := n1_; clear n0_ n1_; (try clear hb); (try clear hb2); (try clear hk); (try clear hi)))
      repeat (go_quiet (first | (go_at_call 79; (with_reducible refine (spec_l10EntryOk.calls k a1_0 a1_1 a1_2 a1_3 false _ A7.out).mono ?_); rintro e w31 ⟨rfl, hb⟩; have n0_ := Aside0.mk (blk_below (g := gb584) (o := .cells #[.string a1_0, .int .i64 a1_1, .string a1_2, .bool a1_3] 47 (0, 0)) (by (with_reducible repeat (first | refine blk_drewN ?_ _ | refine blk_drew ?_ | refine blk_alloc ?_ _)); exact BK584.out) hb); have n1_ := Aside0.mk (below_step (by repeat (first | (with_reducible first | exact HB.out | apply below_alloc | apply pw_below_drewN | apply below_drew1 | refine below_set ?_ GE584.out) | exact HB.out)) hb); clear BK584; clear HB; have BK584 := n0_; have HB := n1_; clear n0_ n1_; (try clear hb); (try clear hb2); (try clear hk); (try clear hi); (try clear A7))); try go_wp2_with (first | (go_at_call 79; (with_reducible refine (spec_l10EntryOk.calls k a1_0 a1_1 a1_2 a1_3 false _ A7.out).mono ?_); rintro e w31 ⟨rfl, hb⟩; have n0_ := Aside0.mk (blk_below (g := gb584) (o := .cells #[.string a1_0, .int .i64 a1_1, .string a1_2, .bool a1_3] 47 (0, 0)) (by (with_reducible repeat (first | refine blk_drewN ?_ _ | refine blk_drew ?_ | refine blk_alloc ?_ _)); exact BK584.out) hb); have n1_ := Aside0.mk (below_step (by repeat (first | (with_reducible first | exact HB.out | apply below_alloc | apply pw_below_drewN | apply below_drew1 | refine below_set ?_ GE584.out) | exact HB.out)) hb); clear BK584; clear HB; have BK584 := n0_; have HB := n1_; clear n0_ n1_; (try clear hb); (try clear hb2); (try clear hk); (try clear hi); (try clear A7))))
      go_meet
      case rel => exact ⟨_, (true), (by first | rfl | (simp; done) | (simp [*]; done)), H', ⟨by first | omega | exact Nat.le_refl _⟩, ⟨by (with_reducible repeat (first | refine blk_drewN ?_ _ | refine blk_drew ?_ | refine blk_alloc ?_ _)); exact BK584.out⟩, ⟨by repeat (first | (with_reducible first | exact HB.out | apply below_alloc | apply pw_below_drewN | apply below_drew1 | refine below_set ?_ GE584.out) | exact HB.out)⟩⟩
  case rest =>
    clear HC4
    try clear c1
    try clear c2
    try clear p2
    try clear c7
    try clear c8
    try clear c9
    try clear c9b0
    try clear c9b1
    try clear c10
    try clear c10b0
    try clear c10b1
    try clear c19
    try clear c20
    try clear c20b0
    try clear c20b1
    try clear hcz11_0
    try clear hcz11_1
    try clear hcz11_2
    try clear hcz11_3
    try clear hcz13_0
    try clear hcz13_1
    try clear hcz13_2
    try clear hcz13_3
    try clear hcz15_0
    try clear hcz15_1
    try clear hcz15_2
    try clear hcz15_3
    try clear hcz17_0
    try clear hcz17_1
    try clear hcz17_2
    try clear hcz17_3
    try clear hcz21_0
    try clear hcz21_1
    try clear hcz21_2
    try clear hcz21_3
    try clear hcz23_0
    try clear hcz23_1
    try clear hcz23_2
    try clear hcz23_3
    try clear hcz25_0
    try clear hcz25_1
    try clear hcz25_2
    try clear hcz25_3
    try clear hcz27_0
    try clear hcz27_1
    try clear hcz27_2
    try clear hcz27_3
    try clear hcz28_0
    try clear hcz28_1
    try clear hcz28_2
    try clear hcz28_3
    try clear hcz30_0
    try clear hcz30_1
    try clear hcz30_2
    try clear hcz30_3
    try clear hcz6_0
    try clear hcz6_1
    try clear hcz6_2
    try clear hcz6_3
    try clear hfz11_0
    try clear hfz11_1
    try clear hfz11_2
    try clear hfz11_3
    try clear hfz13_0
    try clear hfz13_1
    try clear hfz13_2
    try clear hfz13_3
    try clear hfz15_0
    try clear hfz15_1
    try clear hfz15_2
    try clear hfz15_3
    try clear hfz17_0
    try clear hfz17_1
    try clear hfz17_2
    try clear hfz17_3
    try clear hfz21_0
    try clear hfz21_1
    try clear hfz21_2
    try clear hfz21_3
    try clear hfz23_0
    try clear hfz23_1
    try clear hfz23_2
    try clear hfz23_3
    try clear hfz25_0
    try clear hfz25_1
    try clear hfz25_2
    try clear hfz25_3
    try clear hfz27_0
    try clear hfz27_1
    try clear hfz27_2
    try clear hfz27_3
    try clear hfz28_0
    try clear hfz28_1
    try clear hfz28_2
    try clear hfz28_3
    try clear hfz30_0
    try clear hfz30_1
    try clear hfz30_2
    try clear hfz30_3
    try clear hfz6_0
    try clear hfz6_1
    try clear hfz6_2
    try clear hfz6_3
    obtain ⟨kq, x36_3, rfl, HA, HJ3, BK584, HB⟩ := hcut
    cases kq with
    | zero => exact absurd HA.out (by simp [spec_l10Put.j0])
    | succ kj3 =>
      have H := HA.out
      clear HA
      simp only [spec_l10Put.j0] at H
      by_cases c32 : x36_3 = true
      · subst c32
        have H1 : ((spec_l10Copy.f l0).bind fun t590 => (some (t590, false))) = some (r1, r2) := by rw [if_pos rfl] at H; exact H
        clear H
        have H := H1
        clear H1
        replace H := Option.bind_eq_some_iff.mp H
        obtain ⟨t590, A330, H⟩ := H
        replace H : (some (t590, false)) = some (r1, r2) := H
        have A33 := Aside0.mk A330
        clear A330
        simp only [Option.some.injEq, Prod.mk.injEq] at H
        obtain ⟨rfl, rfl⟩ := H
        go_wp2_with (first | (go_at_call 57; (with_reducible refine (spec_l10Copy.calls _ _ l0 t590 _ ?side1 ?side2 A33.out).mono ?_); (case side1 => repeat (first | exact (Kd.C_below HR0.out HB.out) | (with_reducible refine Kd.C_alloc ?_ _) | (with_reducible refine Kd.C_drewN ?_ _) | (with_reducible refine Kd.C_drew ?_))); (case side2 => exact HC0.out); rintro e w34 ⟨v591, rfl, ho0, hb⟩; have n0_ := Aside0.mk (Kd.R_lower (Kd.R_newB ho0 (g := gb584) (o := .cells #[.string a1_0, .int .i64 a1_1, .string a1_2, .bool a1_3] 47 (0, 0)) (by (with_reducible repeat (first | refine blk_drewN ?_ _ | refine blk_drew ?_ | refine blk_alloc ?_ _)); exact BK584.out)) (below_size (by repeat (first | (with_reducible first | exact HB.out | apply below_alloc | apply pw_below_drewN | apply below_drew1 | refine below_set ?_ GE584.out) | exact HB.out)))); have n1_ := Aside0.mk (blk_below (g := gb584) (o := .cells #[.string a1_0, .int .i64 a1_1, .string a1_2, .bool a1_3] 47 (0, 0)) (by (with_reducible repeat (first | refine blk_drewN ?_ _ | refine blk_drew ?_ | refine blk_alloc ?_ _)); exact BK584.out) hb); have n2_ := Aside0.mk (below_step (by repeat (first | (with_reducible first | exact HB.out | apply below_alloc | apply pw_below_drewN | apply below_drew1 | refine below_set ?_ GE584.out) | exact HB.out)) hb); clear BK584; clear HB; have HO592 := n0_; have BK584 := n1_; have HB := n2_; clear n0_ n1_ n2_; (try clear hb); (try clear hb2); (try clear hk); (try clear hi); (try clear ho0)))
        repeat (go_quiet (first | (go_at_call 57; (with_reducible refine (spec_l10Copy.calls _ _ l0 t590 _ ?side1 ?side2 A33.out).mono ?_); (case side1 => repeat (first | exact (Kd.C_below HR0.out HB.out) | (with_reducible refine Kd.C_alloc ?_ _) | (with_reducible refine Kd.C_drewN ?_ _) | (with_reducible refine Kd.C_drew ?_))); (case side2 => exact HC0.out); rintro e w34 ⟨v591, rfl, ho0, hb⟩; have n0_ := Aside0.mk (Kd.R_lower (Kd.R_newB ho0 (g := gb584) (o := .cells #[.string a1_0, .int .i64 a1_1, .string a1_2, .bool a1_3] 47 (0, 0)) (by (with_reducible repeat (first | refine blk_drewN ?_ _ | refine blk_drew ?_ | refine blk_alloc ?_ _)); exact BK584.out)) (below_size (by repeat (first | (with_reducible first | exact HB.out | apply below_alloc | apply pw_below_drewN | apply below_drew1 | refine below_set ?_ GE584.out) | exact HB.out)))); have n1_ := Aside0.mk (blk_below (g := gb584) (o := .cells #[.string a1_0, .int .i64 a1_1, .string a1_2, .bool a1_3] 47 (0, 0)) (by (with_reducible repeat (first | refine blk_drewN ?_ _ | refine blk_drew ?_ | refine blk_alloc ?_ _)); exact BK584.out) hb); have n2_ := Aside0.mk (below_step (by repeat (first | (with_reducible first | exact HB.out | apply below_alloc | apply pw_below_drewN | apply below_drew1 | refine below_set ?_ GE584.out) | exact HB.out)) hb); clear BK584; clear HB; have HO592 := n0_; have BK584 := n1_; have HB := n2_; clear n0_ n1_ n2_; (try clear hb); (try clear hb2); (try clear hk); (try clear hi); (try clear ho0))); try go_wp2_with (first | (go_at_call 57; (with_reducible refine (spec_l10Copy.calls _ _ l0 t590 _ ?side1 ?side2 A33.out).mono ?_); (case side1 => repeat (first | exact (Kd.C_below HR0.out HB.out) | (with_reducible refine Kd.C_alloc ?_ _) | (with_reducible refine Kd.C_drewN ?_ _) | (with_reducible refine Kd.C_drew ?_))); (case side2 => exact HC0.out); rintro e w34 ⟨v591, rfl, ho0, hb⟩; have n0_ := Aside0.mk (Kd.R_lower (Kd.R_newB ho0 (g := gb584) (o := .cells #[.string a1_0, .int .i64 a1_1, .string a1_2, .bool a1_3] 47 (0, 0)) (by (with_reducible repeat (first | refine blk_drewN ?_ _ | refine blk_drew ?_ | refine blk_alloc ?_ _)); exact BK584.out)) (below_size (by repeat (first | (with_reducible first | exact HB.out | apply below_alloc | apply pw_below_drewN | apply below_drew1 | refine below_set ?_ GE584.out) | exact HB.out)))); have n1_ := Aside0.mk (blk_below (g := gb584) (o := .cells #[.string a1_0, .int .i64 a1_1, .string a1_2, .bool a1_3] 47 (0, 0)) (by (with_reducible repeat (first | refine blk_drewN ?_ _ | refine blk_drew ?_ | refine blk_alloc ?_ _)); exact BK584.out) hb); have n2_ := Aside0.mk (below_step (by repeat (first | (with_reducible first | exact HB.out | apply below_alloc | apply pw_below_drewN | apply below_drew1 | refine below_set ?_ GE584.out) | exact HB.out)) hb); clear BK584; clear HB; have HO592 := n0_; have BK584 := n1_; have HB := n2_; clear n0_ n1_ n2_; (try clear hb); (try clear hb2); (try clear hk); (try clear hi); (try clear ho0))))
        go_ret2
        exact ⟨_, by first | rfl | (simp [errW_none, errW_some] <;> rfl) | (simp [*, errW_none, errW_some] <;> rfl), by (with_reducible repeat (first | apply Kd.R_alloc | apply Kd.R_drewN | apply Kd.R_drew)); exact Kd.R_mono HO592.out (fun _ hk => trivial), by repeat (first | (with_reducible first | exact HB.out | apply below_alloc | apply pw_below_drewN | apply below_drew1 | refine below_set ?_ GE584.out) | exact HB.out)⟩
      · replace c32 := Bool.eq_false_iff.mpr c32
        subst c32
        have H1 : (spec_l10Put.l0 kj3 l0 (([] : List (S47))) false 0 a1_0 a1_1 a1_2 a1_3) = some (r1, r2) := by rw [if_neg (show ¬ (false = true) by decide)] at H; exact H
        clear H
        have H := H1
        clear H1
        obtain ⟨y593, hy593⟩ : ∃ y_ : List (S47), y_ = (([] : List (S47))) := ⟨_, rfl⟩
        replace H : (spec_l10Put.l0 kj3 l0 y593 false 0 a1_0 a1_1 a1_2 a1_3) = some (r1, r2) := by first | (rw [hy593]; with_reducible exact H) | (have H2_ := (Option.bind_some _ _).symm.trans H; rw [hy593]; with_reducible exact H2_) | (have H2_ := (Option.bind_some _ _).symm.trans H; with_reducible exact H2_) | with_reducible exact H | (rw [hy593]; exact H) | exact H
        have Ny593 := Aside0.mk hy593
        clear hy593
        have H' := Aside0.mk H
        clear H
        go_wp2_with (first | ((with_reducible refine gate_dst (N := 39) rfl ?_); refine Kd.R_lit k47 _ 47 ?hg (N := 39) ?hd (xs := ([] : List (S47))) (inner := []) (ok := fun _ => True) (okp := fun _ => True) ?hr ?hp (fun _ hk => hk) trivial (Below.refl _ _) (Nat.le_refl _) (by simp) ?_; (case hd => rfl); (case hg => rfl); (case hr => first | (go_simp; done) | (go_simp; rfl)); (case hp => exact (Reps.none _ _)); intro v594 w35 ho36 hb hg_ hnew_; clear hg_ hnew_; (first | rw [← Ny593.out] at ho36 | (simp only [Int.reduceToNat] at ho36; rw [← Ny593.out] at ho36)); have n0_ := Aside0.mk (Kd.R_lower (Kd.R_newB ho36 (g := gb584) (o := .cells #[.string a1_0, .int .i64 a1_1, .string a1_2, .bool a1_3] 47 (0, 0)) (by (with_reducible repeat (first | refine blk_drewN ?_ _ | refine blk_drew ?_ | refine blk_alloc ?_ _)); exact BK584.out)) (below_size (by repeat (first | (with_reducible first | exact HB.out | apply below_alloc | apply pw_below_drewN | apply below_drew1 | refine below_set ?_ GE584.out) | exact HB.out)))); have n1_ := Aside0.mk (blk_below (g := gb584) (o := .cells #[.string a1_0, .int .i64 a1_1, .string a1_2, .bool a1_3] 47 (0, 0)) (by (with_reducible repeat (first | refine blk_drewN ?_ _ | refine blk_drew ?_ | refine blk_alloc ?_ _)); exact BK584.out) hb); have n2_ := Aside0.mk (below_step (by repeat (first | (with_reducible first | exact HB.out | apply below_alloc | apply pw_below_drewN | apply below_drew1 | refine below_set ?_ GE584.out) | exact HB.out)) hb); clear BK584; clear HB; have HO595 := n0_; have BK584 := n1_; have HB := n2_; clear n0_ n1_ n2_; clear hb ho36))
        repeat (go_quiet (first | ((with_reducible refine gate_dst (N := 39) rfl ?_); refine Kd.R_lit k47 _ 47 ?hg (N := 39) ?hd (xs := ([] : List (S47))) (inner := []) (ok := fun _ => True) (okp := fun _ => True) ?hr ?hp (fun _ hk => hk) trivial (Below.refl _ _) (Nat.le_refl _) (by simp) ?_; (case hd => rfl); (case hg => rfl); (case hr => first | (go_simp; done) | (go_simp; rfl)); (case hp => exact (Reps.none _ _)); intro v594 w35 ho36 hb hg_ hnew_; clear hg_ hnew_; (first | rw [← Ny593.out] at ho36 | (simp only [Int.reduceToNat] at ho36; rw [← Ny593.out] at ho36)); have n0_ := Aside0.mk (Kd.R_lower (Kd.R_newB ho36 (g := gb584) (o := .cells #[.string a1_0, .int .i64 a1_1, .string a1_2, .bool a1_3] 47 (0, 0)) (by (with_reducible repeat (first | refine blk_drewN ?_ _ | refine blk_drew ?_ | refine blk_alloc ?_ _)); exact BK584.out)) (below_size (by repeat (first | (with_reducible first | exact HB.out | apply below_alloc | apply pw_below_drewN | apply below_drew1 | refine below_set ?_ GE584.out) | exact HB.out)))); have n1_ := Aside0.mk (blk_below (g := gb584) (o := .cells #[.string a1_0, .int .i64 a1_1, .string a1_2, .bool a1_3] 47 (0, 0)) (by (with_reducible repeat (first | refine blk_drewN ?_ _ | refine blk_drew ?_ | refine blk_alloc ?_ _)); exact BK584.out) hb); have n2_ := Aside0.mk (below_step (by repeat (first | (with_reducible first | exact HB.out | apply below_alloc | apply pw_below_drewN | apply below_drew1 | refine below_set ?_ GE584.out) | exact HB.out)) hb); clear BK584; clear HB; have HO595 := n0_; have BK584 := n1_; have HB := n2_; clear n0_ n1_ n2_; clear hb ho36)); try go_wp2_with (first | ((with_reducible refine gate_dst (N := 39) rfl ?_); refine Kd.R_lit k47 _ 47 ?hg (N := 39) ?hd (xs := ([] : List (S47))) (inner := []) (ok := fun _ => True) (okp := fun _ => True) ?hr ?hp (fun _ hk => hk) trivial (Below.refl _ _) (Nat.le_refl _) (by simp) ?_; (case hd => rfl); (case hg => rfl); (case hr => first | (go_simp; done) | (go_simp; rfl)); (case hp => exact (Reps.none _ _)); intro v594 w35 ho36 hb hg_ hnew_; clear hg_ hnew_; (first | rw [← Ny593.out] at ho36 | (simp only [Int.reduceToNat] at ho36; rw [← Ny593.out] at ho36)); have n0_ := Aside0.mk (Kd.R_lower (Kd.R_newB ho36 (g := gb584) (o := .cells #[.string a1_0, .int .i64 a1_1, .string a1_2, .bool a1_3] 47 (0, 0)) (by (with_reducible repeat (first | refine blk_drewN ?_ _ | refine blk_drew ?_ | refine blk_alloc ?_ _)); exact BK584.out)) (below_size (by repeat (first | (with_reducible first | exact HB.out | apply below_alloc | apply pw_below_drewN | apply below_drew1 | refine below_set ?_ GE584.out) | exact HB.out)))); have n1_ := Aside0.mk (blk_below (g := gb584) (o := .cells #[.string a1_0, .int .i64 a1_1, .string a1_2, .bool a1_3] 47 (0, 0)) (by (with_reducible repeat (first | refine blk_drewN ?_ _ | refine blk_drew ?_ | refine blk_alloc ?_ _)); exact BK584.out) hb); have n2_ := Aside0.mk (below_step (by repeat (first | (with_reducible first | exact HB.out | apply below_alloc | apply pw_below_drewN | apply below_drew1 | refine below_set ?_ GE584.out) | exact HB.out)) hb); clear BK584; clear HB; have HO595 := n0_; have BK584 := n1_; have HB := n2_; clear n0_ n1_ n2_; clear hb ho36)))
        go_loopg [7, 8, 9] kj3 (fun kq v7 v8 v9 w' => ∃ (x7_2 : List (S47)) (x8_2 : Bool) (x9_2 : Int), v8 = .bool x8_2 ∧ v9 = .int .i64 x9_2 ∧ Aside0 (spec_l10Put.l0 kq l0 x7_2 x8_2 x9_2 a1_0 a1_1 a1_2 a1_3 = some (r1, r2)) ∧ Aside0 (kq ≤ kj3) ∧ Aside0 (Kd.R k47 47 w' w.heap.size (fun k_ => k_ ≠ gb584) v7 x7_2) ∧ Aside0 (w'.heap[gb584]? = some (.cells #[.string a1_0, .int .i64 a1_1, .string a1_2, .bool a1_3] 47 (0, 0))) ∧ Aside0 (Below w.heap.size w w'))
        case atStart => exact ⟨(y593), (false), (0), (by first | rfl | (simp; done) | (simp [*]; done)), (by first | rfl | (simp; done) | (simp [*]; done)), H', ⟨Nat.le_refl _⟩, ⟨by (with_reducible repeat (first | apply Kd.R_alloc | apply Kd.R_drewN | apply Kd.R_drew)); exact Kd.R_mono HO595.out (fun _ hk => hk.2)⟩, ⟨by (with_reducible repeat (first | refine blk_drewN ?_ _ | refine blk_drew ?_ | refine blk_alloc ?_ _)); exact BK584.out⟩, ⟨by repeat (first | (with_reducible first | exact HB.out | apply below_alloc | apply pw_below_drewN | apply below_drew1 | refine below_set ?_ GE584.out) | exact HB.out)⟩⟩
        case round =>
          clear H'
          try clear c1
          try clear c2
          try clear p2
          try clear c3
          try clear c7
          try clear c8
          try clear c9
          try clear c9b0
          try clear c9b1
          try clear c10
          try clear c10b0
          try clear c10b1
          try clear c19
          try clear c20
          try clear c20b0
          try clear c20b1
          try clear c32
          try clear hcz11_0
          try clear hcz11_1
          try clear hcz11_2
          try clear hcz11_3
          try clear hcz13_0
          try clear hcz13_1
          try clear hcz13_2
          try clear hcz13_3
          try clear hcz15_0
          try clear hcz15_1
          try clear hcz15_2
          try clear hcz15_3
          try clear hcz17_0
          try clear hcz17_1
          try clear hcz17_2
          try clear hcz17_3
          try clear hcz21_0
          try clear hcz21_1
          try clear hcz21_2
          try clear hcz21_3
          try clear hcz23_0
          try clear hcz23_1
          try clear hcz23_2
          try clear hcz23_3
          try clear hcz25_0
          try clear hcz25_1
          try clear hcz25_2
          try clear hcz25_3
          try clear hcz27_0
          try clear hcz27_1
          try clear hcz27_2
          try clear hcz27_3
          try clear hcz28_0
          try clear hcz28_1
          try clear hcz28_2
          try clear hcz28_3
          try clear hcz30_0
          try clear hcz30_1
          try clear hcz30_2
          try clear hcz30_3
          try clear hcz6_0
          try clear hcz6_1
          try clear hcz6_2
          try clear hcz6_3
          try clear hfz11_0
          try clear hfz11_1
          try clear hfz11_2
          try clear hfz11_3
          try clear hfz13_0
          try clear hfz13_1
          try clear hfz13_2
          try clear hfz13_3
          try clear hfz15_0
          try clear hfz15_1
          try clear hfz15_2
          try clear hfz15_3
          try clear hfz17_0
          try clear hfz17_1
          try clear hfz17_2
          try clear hfz17_3
          try clear hfz21_0
          try clear hfz21_1
          try clear hfz21_2
          try clear hfz21_3
          try clear hfz23_0
          try clear hfz23_1
          try clear hfz23_2
          try clear hfz23_3
          try clear hfz25_0
          try clear hfz25_1
          try clear hfz25_2
          try clear hfz25_3
          try clear hfz27_0
          try clear hfz27_1
          try clear hfz27_2
          try clear hfz27_3
          try clear hfz28_0
          try clear hfz28_1
          try clear hfz28_2
          try clear hfz28_3
          try clear hfz30_0
          try clear hfz30_1
          try clear hfz30_2
          try clear hfz30_3
          try clear hfz6_0
          try clear hfz6_1
          try clear hfz6_2
          try clear hfz6_3
          try clear p2
          obtain ⟨x7_2, x8_2, x9_2, rfl, rfl, HA, HK2, HO_7, BK584, HB⟩ := hrel
          cases gk with
          | zero => exact absurd HA.out (by simp [spec_l10Put.l0])
          | succ k2 =>
            have H := HA.out
            clear HA
            simp only [spec_l10Put.l0] at H
            by_cases c37 : x9_2 < (l0.length : Int)
            · rw [if_pos c37] at H
              have c37b0 : decide (x9_2 < (l0.length : Int)) = true := decide_eq_true c37
              clear c37
              have HC38 := Aside0.mk H
              clear H
              go_upto_region 9 with (fail)
              repeat (go_quiet (fail); go_upto_region 9 with (fail))
              go_cut [57] (fun v57 wc => ∃ (kq : Nat) (x57_37 : Bool), v57 = .bool x57_37 ∧ Aside0 (spec_l10Put.j2 kq l0 x7_2 x8_2 x9_2 x57_37 a1_0 a1_1 a1_2 a1_3 = some (r1, r2)) ∧ Aside0 (kq ≤ k2) ∧ Aside0 (Kd.R k47 47 wc w.heap.size (fun k_ => k_ ≠ gb584) u7 x7_2) ∧ Aside0 (wc.heap[gb584]? = some (.cells #[.string a1_0, .int .i64 a1_1, .string a1_2, .bool a1_3] 47 (0, 0))) ∧ Aside0 (Below w.heap.size w wc))
              case first =>
                have H := HC38.out
                clear HC38
                by_cases c39 : x8_2 = true
                · subst c39
                  have H1 : (spec_l10Put.j2 k2 l0 x7_2 true x9_2 false a1_0 a1_1 a1_2 a1_3) = some (r1, r2) := by rw [if_pos rfl] at H; exact H
                  clear H
                  have H := H1
                  clear H1
                  have H' := Aside0.mk H
                  clear H
                  go_wp2
                  repeat (go_quiet (fail); try go_wp2)
                  go_meet
                  case rel => exact ⟨_, (false), (by first | rfl | (simp; done) | (simp [*]; done)), H', ⟨by have := HJ3.out; have := HK2.out; first | omega | exact Nat.le_refl _⟩, ⟨by (with_reducible repeat (first | apply Kd.R_alloc | apply Kd.R_drewN | apply Kd.R_drew)); exact HO_7.out⟩, ⟨by (with_reducible repeat (first | refine blk_drewN ?_ _ | refine blk_drew ?_ | refine blk_alloc ?_ _)); exact BK584.out⟩, ⟨by repeat (first | (with_reducible first | exact HB.out | apply below_alloc | apply pw_below_drewN | apply below_drew1 | refine below_set ?_ GE584.out) | exact HB.out)⟩⟩
                · replace c39 := Bool.eq_false_iff.mpr c39
                  subst c39
                  have H1 : (if 0 ≤ x9_2 then (spec_l10Put.j2 k2 l0 x7_2 false x9_2 (!(Op.bytesLess (((rd_T47 l0 x9_2).f0).toList) a1_0.toList)) a1_0 a1_1 a1_2 a1_3) else (none)) = some (r1, r2) := by rw [if_neg (show ¬ (false = true) by decide)] at H; exact H
                  clear H
                  have H := H1
                  clear H1
                  by_cases c40 : 0 ≤ x9_2
                  · rw [if_pos c40] at H
                    have c40b0 : decide (0 ≤ x9_2) = true := decide_eq_true c40
                    clear c40
                    (first | rw [c40b0] | (simp only [i64_w, i32_w]; rw [c40b0]) | skip)
                    have H' := Aside0.mk H
                    clear H
                    have p596 : 0 ≤ (x9_2 : Int) := of_decide_eq_true (by first | (with_reducible assumption) | assumption)
                    have q596 : x9_2 < (l0.length : Int) := of_decide_eq_true (by first | (with_reducible assumption) | assumption)
                    obtain ⟨ad596, e596, hx596_0, hx596_1, hx596_2, hx596_3⟩ := at_T47 HR0.out x9_2 p596 q596
                    cases e596
                    replace hx596_0 := (HB.out.cell (World.block_lt_of_cell? w _ hx596_0)).trans hx596_0
                    replace hx596_1 := (HB.out.cell (World.block_lt_of_cell? w _ hx596_1)).trans hx596_1
                    replace hx596_2 := (HB.out.cell (World.block_lt_of_cell? w _ hx596_2)).trans hx596_2
                    replace hx596_3 := (HB.out.cell (World.block_lt_of_cell? w _ hx596_3)).trans hx596_3
                    replace p596 := eq_true p596
                    replace q596 := eq_true q596
                    have hcz41_0 : wr.cell? ⟨gb584, 0, none⟩ = some (.string a1_0) := (blk_cell BK584.out 0).trans rfl
                    have hcz41_1 : wr.cell? ⟨gb584, 1, none⟩ = some (.int .i64 a1_1) := (blk_cell BK584.out 1).trans rfl
                    have hcz41_2 : wr.cell? ⟨gb584, 2, none⟩ = some (.string a1_2) := (blk_cell BK584.out 2).trans rfl
                    have hcz41_3 : wr.cell? ⟨gb584, 3, none⟩ = some (.bool a1_3) := (blk_cell BK584.out 3).trans rfl
                    have hfz41_0 := blk_frozen BK584.out 0
                    have hfz41_1 := blk_frozen BK584.out 1
                    have hfz41_2 := blk_frozen BK584.out 2
                    have hfz41_3 := blk_frozen BK584.out 3
                    go_wp2
                    repeat (go_quiet (fail); try go_wp2)
                    go_meet
                    case rel => exact ⟨_, (!(Op.bytesLess (((rd_T47 l0 x9_2).f0).toList) a1_0.toList)), (by first | rfl | (simp; done) | (simp [*]; done)), H', ⟨by have := HJ3.out; have := HK2.out; first | omega | exact Nat.le_refl _⟩, ⟨by (with_reducible repeat (first | apply Kd.R_alloc | apply Kd.R_drewN | apply Kd.R_drew)); exact HO_7.out⟩, ⟨by (with_reducible repeat (first | refine blk_drewN ?_ _ | refine blk_drew ?_ | refine blk_alloc ?_ _)); exact BK584.out⟩, ⟨by repeat (first | (with_reducible first | exact HB.out | apply below_alloc | apply pw_below_drewN | apply below_drew1 | refine below_set ?_ GE584.out) | exact HB.out)⟩⟩
                  · rw [if_neg c40] at H
                    exact absurd H (by simp)
              case rest =>
                clear HC38
                try clear c1
                try clear c2
                try clear p2
                try clear c3
                try clear c4
                try clear p5
                try clear q5
                try clear hx5
                try clear c7
                try clear c8
                try clear c9
                try clear c9b0
                try clear c9b1
                try clear c10
                try clear c10b0
                try clear c10b1
                try clear c19
                try clear c20
                try clear c20b0
                try clear c20b1
                try clear c32
                try clear c37
                try clear c37b0
                try clear c39
                try clear c40
                try clear c40b0
                try clear hcz11_0
                try clear hcz11_1
                try clear hcz11_2
                try clear hcz11_3
                try clear hcz13_0
                try clear hcz13_1
                try clear hcz13_2
                try clear hcz13_3
                try clear hcz15_0
                try clear hcz15_1
                try clear hcz15_2
                try clear hcz15_3
                try clear hcz17_0
                try clear hcz17_1
                try clear hcz17_2
                try clear hcz17_3
                try clear hcz21_0
                try clear hcz21_1
                try clear hcz21_2
                try clear hcz21_3
                try clear hcz23_0
                try clear hcz23_1
                try clear hcz23_2
                try clear hcz23_3
                try clear hcz25_0
                try clear hcz25_1
                try clear hcz25_2
                try clear hcz25_3
                try clear hcz27_0
                try clear hcz27_1
                try clear hcz27_2
                try clear hcz27_3
                try clear hcz28_0
                try clear hcz28_1
                try clear hcz28_2
                try clear hcz28_3
                try clear hcz30_0
                try clear hcz30_1
                try clear hcz30_2
                try clear hcz30_3
                try clear hcz41_0
                try clear hcz41_1
                try clear hcz41_2
                try clear hcz41_3
                try clear hcz6_0
                try clear hcz6_1
                try clear hcz6_2
                try clear hcz6_3
                try clear hfz11_0
                try clear hfz11_1
                try clear hfz11_2
                try clear hfz11_3
                try clear hfz13_0
                try clear hfz13_1
                try clear hfz13_2
                try clear hfz13_3
                try clear hfz15_0
                try clear hfz15_1
                try clear hfz15_2
                try clear hfz15_3
                try clear hfz17_0
                try clear hfz17_1
                try clear hfz17_2
                try clear hfz17_3
                try clear hfz21_0
                try clear hfz21_1
                try clear hfz21_2
                try clear hfz21_3
                try clear hfz23_0
                try clear hfz23_1
                try clear hfz23_2
                try clear hfz23_3
                try clear hfz25_0
                try clear hfz25_1
                try clear hfz25_2
                try clear hfz25_3
                try clear hfz27_0
                try clear hfz27_1
                try clear hfz27_2
                try clear hfz27_3
                try clear hfz28_0
                try clear hfz28_1
                try clear hfz28_2
                try clear hfz28_3
                try clear hfz30_0
                try clear hfz30_1
                try clear hfz30_2
                try clear hfz30_3
                try clear hfz41_0
                try clear hfz41_1
                try clear hfz41_2
                try clear hfz41_3
                try clear hfz6_0
                try clear hfz6_1
                try clear hfz6_2
                try clear hfz6_3
                try clear hx596_0
                try clear hx596_1
                try clear hx596_2
                try clear hx596_3
                try clear p2
                try clear p596
                try clear q596
                obtain ⟨kq, x57_37, rfl, HA, HJ37, HO_7, BK584, HB⟩ := hcut
                cases kq with
                | zero => exact absurd HA.out (by simp [spec_l10Put.j2])
                | succ kj37 =>
                  have H := HA.out
                  clear HA
                  simp only [spec_l10Put.j2] at H
                  by_cases c42 : x57_37 = true
                  · subst c42
                    have H1 : (if x7_2.length < 2932031007402 then ((some (x7_2 ++ [(⟨a1_0, a1_1, a1_2, a1_3⟩ : S47)] : List (S47))).bind fun y597 => (if 0 ≤ x9_2 then (if x9_2 < (l0.length : Int) then (if ((rd_T47 l0 x9_2).f0).toList = a1_0.toList then (spec_l10Put.l0 kj37 l0 y597 true (wrap64 (x9_2 + 1)) a1_0 a1_1 a1_2 a1_3) else (if y597.length < 2932031007402 then (spec_l10Put.l0 kj37 l0 (y597 ++ [(⟨(rd_T47 l0 x9_2).f0, (rd_T47 l0 x9_2).f1, (rd_T47 l0 x9_2).f2, (rd_T47 l0 x9_2).f3⟩ : S47)]) true (wrap64 (x9_2 + 1)) a1_0 a1_1 a1_2 a1_3) else (none))) else (none)) else (none))) else (none)) = some (r1, r2) := by rw [if_pos rfl] at H; exact H
                    clear H
                    have H := H1
                    clear H1
                    by_cases c43 : x7_2.length < 2932031007402
                    · rw [if_pos c43] at H
                      have LMc43 := Aside0.mk c43
                      clear c43
                      obtain ⟨y597, hy597⟩ : ∃ y_ : List (S47), y_ = (x7_2 ++ [(⟨a1_0, a1_1, a1_2, a1_3⟩ : S47)]) := ⟨_, rfl⟩
                      replace H : (if 0 ≤ x9_2 then (if x9_2 < (l0.length : Int) then (if ((rd_T47 l0 x9_2).f0).toList = a1_0.toList then (spec_l10Put.l0 kj37 l0 y597 true (wrap64 (x9_2 + 1)) a1_0 a1_1 a1_2 a1_3) else (if y597.length < 2932031007402 then (spec_l10Put.l0 kj37 l0 (y597 ++ [(⟨(rd_T47 l0 x9_2).f0, (rd_T47 l0 x9_2).f1, (rd_T47 l0 x9_2).f2, (rd_T47 l0 x9_2).f3⟩ : S47)]) true (wrap64 (x9_2 + 1)) a1_0 a1_1 a1_2 a1_3) else (none))) else (none)) else (none)) = some (r1, r2) := by first | (rw [hy597]; with_reducible exact H) | (have H2_ := (Option.bind_some _ _).symm.trans H; rw [hy597]; with_reducible exact H2_) | (have H2_ := (Option.bind_some _ _).symm.trans H; with_reducible exact H2_) | with_reducible exact H | (rw [hy597]; exact H) | exact H
                      have Ny597 := Aside0.mk hy597
                      clear hy597
                      by_cases c44 : 0 ≤ x9_2
                      · rw [if_pos c44] at H
                        have c44b0 : decide (0 ≤ x9_2) = true := decide_eq_true c44
                        clear c44
                        by_cases c45 : x9_2 < (l0.length : Int)
                        · rw [if_pos c45] at H
                          have c45b0 : decide (x9_2 < (l0.length : Int)) = true := decide_eq_true c45
                          clear c45
                          by_cases c46 : ((rd_T47 l0 x9_2).f0).toList = a1_0.toList
                          · rw [if_pos c46] at H
                            have c46b0 : (((rd_T47 l0 x9_2).f0).toList == a1_0.toList) = true := beq_iff_eq.mpr c46
                            have c46b1 : (((rd_T47 l0 x9_2).f0).toList != a1_0.toList) = false := bne_eq_false_iff_eq.mpr c46
                            clear c46
                            have H' := Aside0.mk H
                            clear H
                            have hcz47_0 : wc.cell? ⟨gb584, 0, none⟩ = some (.string a1_0) := (blk_cell BK584.out 0).trans rfl
                            have hcz47_1 : wc.cell? ⟨gb584, 1, none⟩ = some (.int .i64 a1_1) := (blk_cell BK584.out 1).trans rfl
                            have hcz47_2 : wc.cell? ⟨gb584, 2, none⟩ = some (.string a1_2) := (blk_cell BK584.out 2).trans rfl
                            have hcz47_3 : wc.cell? ⟨gb584, 3, none⟩ = some (.bool a1_3) := (blk_cell BK584.out 3).trans rfl
                            have hfz47_0 := blk_frozen BK584.out 0
                            have hfz47_1 := blk_frozen BK584.out 1
                            have hfz47_2 := blk_frozen BK584.out 2
                            have hfz47_3 := blk_frozen BK584.out 3
                            go_wp2_with (first | ((with_reducible refine gate_builtin (b := .append) (xs := #[.tmp 58, .tmp 60]) rfl ?_); at_builtin; refine Kd.R_append k47 (w0 := w) w.heap.size rfl (.tmp 58) (.tmp 60) 25 47 (.agg #[(.string ⟨#[]⟩), (.int .i64 0), (.string ⟨#[]⟩), (.bool false)]) 48 rfl Tryd.underlying25 info47 rfl (by decide) (by omega) u7 x7_2 (⟨a1_0, a1_1, a1_2, a1_3⟩ : S47) [.string a1_0, .int .i64 a1_1, .string a1_2, .bool a1_3] (fun k_ => k_ ≠ gb584) (fun _ => False) rfl rfl ?aP (fun _ hk => hk.elim) ?aF ?aO ?aB ?aS ?aL ?_; (case aP => exact k47_mkM _ _ _ (⟨a1_0, a1_1, a1_2, a1_3⟩ : S47)); (case aB => exact (by repeat (first | (with_reducible first | exact HB.out | apply below_alloc | apply pw_below_drewN | apply below_drew1 | refine below_set ?_ GE584.out) | exact HB.out))); (case aF => exact (fun k_ hk => Kd.freshB (g := gb584) (o := .cells #[.string a1_0, .int .i64 a1_1, .string a1_2, .bool a1_3] 47 (0, 0)) (by (with_reducible repeat (first | refine blk_drewN ?_ _ | refine blk_drew ?_ | refine blk_alloc ?_ _)); exact BK584.out) k_ hk)); (case aO => exact (by (with_reducible repeat (first | apply Kd.R_alloc | apply Kd.R_drewN | apply Kd.R_drew)); exact HO_7.out)); (case aS => exact (below_size (by repeat (first | (with_reducible first | exact HB.out | apply below_alloc | apply pw_below_drewN | apply below_drew1 | refine below_set ?_ GE584.out) | exact HB.out)))); (case aL => have := LMc43.out; omega); intro v598 w48 ho hb hg hat; rw [← Ny597.out] at ho; have n0_ := Aside0.mk (blk_grown (g := gb584) (o := .cells #[.string a1_0, .int .i64 a1_1, .string a1_2, .bool a1_3] 47 (0, 0)) (by (with_reducible repeat (first | refine blk_drewN ?_ _ | refine blk_drew ?_ | refine blk_alloc ?_ _)); exact BK584.out) hg (Kd.R_away HO_7.out (fun _ hk => hk))); have n1_ := Aside0.mk (hb); have n2_ := Aside0.mk (ho); clear BK584; clear HB; clear HO_7; have BK584 := n0_; have HB := n1_; have HO599 := n2_; clear n0_ n1_ n2_; clear ho hb hg hat; have p600 : 0 ≤ (x9_2 : Int) := of_decide_eq_true (by first | (with_reducible assumption) | assumption); have q600 : x9_2 < (l0.length : Int) := of_decide_eq_true (by first | (with_reducible assumption) | assumption); obtain ⟨ad600, e600, hx600_0, hx600_1, hx600_2, hx600_3⟩ := at_T47 HR0.out x9_2 p600 q600; cases e600; replace hx600_0 := (HB.out.cell (World.block_lt_of_cell? w _ hx600_0)).trans hx600_0; replace hx600_1 := (HB.out.cell (World.block_lt_of_cell? w _ hx600_1)).trans hx600_1; replace hx600_2 := (HB.out.cell (World.block_lt_of_cell? w _ hx600_2)).trans hx600_2; replace hx600_3 := (HB.out.cell (World.block_lt_of_cell? w _ hx600_3)).trans hx600_3; replace p600 := eq_true p600; replace q600 := eq_true q600; have hcz49_0 : w48.cell? ⟨gb584, 0, none⟩ = some (.string a1_0) := (blk_cell BK584.out 0).trans rfl; have hcz49_1 : w48.cell? ⟨gb584, 1, none⟩ = some (.int .i64 a1_1) := (blk_cell BK584.out 1).trans rfl; have hcz49_2 : w48.cell? ⟨gb584, 2, none⟩ = some (.string a1_2) := (blk_cell BK584.out 2).trans rfl; have hcz49_3 : w48.cell? ⟨gb584, 3, none⟩ = some (.bool a1_3) := (blk_cell BK584.out 3).trans rfl; have hfz49_0 := blk_frozen BK584.out 0; have hfz49_1 := blk_frozen BK584.out 1; have hfz49_2 := blk_frozen BK584.out 2; have hfz49_3 := blk_frozen BK584.out 3))
                            repeat (go_quiet (first | ((with_reducible refine gate_builtin (b := .append) (xs := #[.tmp 58, .tmp 60]) rfl ?_); at_builtin; refine Kd.R_append k47 (w0 := w) w.heap.size rfl (.tmp 58) (.tmp 60) 25 47 (.agg #[(.string ⟨#[]⟩), (.int .i64 0), (.string ⟨#[]⟩), (.bool false)]) 48 rfl Tryd.underlying25 info47 rfl (by decide) (by omega) u7 x7_2 (⟨a1_0, a1_1, a1_2, a1_3⟩ : S47) [.string a1_0, .int .i64 a1_1, .string a1_2, .bool a1_3] (fun k_ => k_ ≠ gb584) (fun _ => False) rfl rfl ?aP (fun _ hk => hk.elim) ?aF ?aO ?aB ?aS ?aL ?_; (case aP => exact k47_mkM _ _ _ (⟨a1_0, a1_1, a1_2, a1_3⟩ : S47)); (case aB => exact (by repeat (first | (with_reducible first | exact HB.out | apply below_alloc | apply pw_below_drewN | apply below_drew1 | refine below_set ?_ GE584.out) | exact HB.out))); (case aF => exact (fun k_ hk => Kd.freshB (g := gb584) (o := .cells #[.string a1_0, .int .i64 a1_1, .string a1_2, .bool a1_3] 47 (0, 0)) (by (with_reducible repeat (first | refine blk_drewN ?_ _ | refine blk_drew ?_ | refine blk_alloc ?_ _)); exact BK584.out) k_ hk)); (case aO => exact (by (with_reducible repeat (first | apply Kd.R_alloc | apply Kd.R_drewN | apply Kd.R_drew)); exact HO_7.out)); (case aS => exact (below_size (by repeat (first | (with_reducible first | exact HB.out | apply below_alloc | apply pw_below_drewN | apply below_drew1 | refine below_set ?_ GE584.out) | exact HB.out)))); (case aL => have := LMc43.out; omega); intro v598 w48 ho hb hg hat; rw [← Ny597.out] at ho; have n0_ := Aside0.mk (blk_grown (g := gb584) (o := .cells #[.string a1_0, .int .i64 a1_1, .string a1_2, .bool a1_3] 47 (0, 0)) (by (with_reducible repeat (first | refine blk_drewN ?_ _ | refine blk_drew ?_ | refine blk_alloc ?_ _)); exact BK584.out) hg (Kd.R_away HO_7.out (fun _ hk => hk))); have n1_ := Aside0.mk (hb); have n2_ := Aside0.mk (ho); clear BK584; clear HB; clear HO_7; have BK584 := n0_; have HB := n1_; have HO599 := n2_; clear n0_ n1_ n2_; clear ho hb hg hat; have p600 : 0 ≤ (x9_2 : Int) := of_decide_eq_true (by first | (with_reducible assumption) | assumption); have q600 : x9_2 < (l0.length : Int) := of_decide_eq_true (by first | (with_reducible assumption) | assumption); obtain ⟨ad600, e600, hx600_0, hx600_1, hx600_2, hx600_3⟩ := at_T47 HR0.out x9_2 p600 q600; cases e600; replace hx600_0 := (HB.out.cell (World.block_lt_of_cell? w _ hx600_0)).trans hx600_0; replace hx600_1 := (HB.out.cell (World.block_lt_of_cell? w _ hx600_1)).trans hx600_1; replace hx600_2 := (HB.out.cell (World.block_lt_of_cell? w _ hx600_2)).trans hx600_2; replace hx600_3 := (HB.out.cell (World.block_lt_of_cell? w _ hx600_3)).trans hx600_3; replace p600 := eq_true p600; replace q600 := eq_true q600; have hcz49_0 : w48.cell? ⟨gb584, 0, none⟩ = some (.string a1_0) := (blk_cell BK584.out 0).trans rfl; have hcz49_1 : w48.cell? ⟨gb584, 1, none⟩ = some (.int .i64 a1_1) := (blk_cell BK584.out 1).trans rfl; have hcz49_2 : w48.cell? ⟨gb584, 2, none⟩ = some (.string a1_2) := (blk_cell BK584.out 2).trans rfl; have hcz49_3 : w48.cell? ⟨gb584, 3, none⟩ = some (.bool a1_3) := (blk_cell BK584.out 3).trans rfl; have hfz49_0 := blk_frozen BK584.out 0; have hfz49_1 := blk_frozen BK584.out 1; have hfz49_2 := blk_frozen BK584.out 2; have hfz49_3 := blk_frozen BK584.out 3)); try go_wp2_with (first | ((with_reducible refine gate_builtin (b := .append) (xs := #[.tmp 58, .tmp 60]) rfl ?_); at_builtin; refine Kd.R_append k47 (w0 := w) w.heap.size rfl (.tmp 58) (.tmp 60) 25 47 (.agg #[(.string ⟨#[]⟩), (.int .i64 0), (.string ⟨#[]⟩), (.bool false)]) 48 rfl Tryd.underlying25 info47 rfl (by decide) (by omega) u7 x7_2 (⟨a1_0, a1_1, a1_2, a1_3⟩ : S47) [.string a1_0, .int .i64 a1_1, .string a1_2, .bool a1_3] (fun k_ => k_ ≠ gb584) (fun _ => False) rfl rfl ?aP (fun _ hk => hk.elim) ?aF ?aO ?aB ?aS ?aL ?_; (case aP => exact k47_mkM _ _ _ (⟨a1_0, a1_1, a1_2, a1_3⟩ : S47)); (case aB => exact (by repeat (first | (with_reducible first | exact HB.out | apply below_alloc | apply pw_below_drewN | apply below_drew1 | refine below_set ?_ GE584.out) | exact HB.out))); (case aF => exact (fun k_ hk => Kd.freshB (g := gb584) (o := .cells #[.string a1_0, .int .i64 a1_1, .string a1_2, .bool a1_3] 47 (0, 0)) (by (with_reducible repeat (first | refine blk_drewN ?_ _ | refine blk_drew ?_ | refine blk_alloc ?_ _)); exact BK584.out) k_ hk)); (case aO => exact (by (with_reducible repeat (first | apply Kd.R_alloc | apply Kd.R_drewN | apply Kd.R_drew)); exact HO_7.out)); (case aS => exact (below_size (by repeat (first | (with_reducible first | exact HB.out | apply below_alloc | apply pw_below_drewN | apply below_drew1 | refine below_set ?_ GE584.out) | exact HB.out)))); (case aL => have := LMc43.out; omega); intro v598 w48 ho hb hg hat; rw [← Ny597.out] at ho; have n0_ := Aside0.mk (blk_grown (g := gb584) (o := .cells #[.string a1_0, .int .i64 a1_1, .string a1_2, .bool a1_3] 47 (0, 0)) (by (with_reducible repeat (first | refine blk_drewN ?_ _ | refine blk_drew ?_ | refine blk_alloc ?_ _)); exact BK584.out) hg (Kd.R_away HO_7.out (fun _ hk => hk))); have n1_ := Aside0.mk (hb); have n2_ := Aside0.mk (ho); clear BK584; clear HB; clear HO_7; have BK584 := n0_; have HB := n1_; have HO599 := n2_; clear n0_ n1_ n2_; clear ho hb hg hat; have p600 : 0 ≤ (x9_2 : Int) := of_decide_eq_true (by first | (with_reducible assumption) | assumption); have q600 : x9_2 < (l0.length : Int) := of_decide_eq_true (by first | (with_reducible assumption) | assumption); obtain ⟨ad600, e600, hx600_0, hx600_1, hx600_2, hx600_3⟩ := at_T47 HR0.out x9_2 p600 q600; cases e600; replace hx600_0 := (HB.out.cell (World.block_lt_of_cell? w _ hx600_0)).trans hx600_0; replace hx600_1 := (HB.out.cell (World.block_lt_of_cell? w _ hx600_1)).trans hx600_1; replace hx600_2 := (HB.out.cell (World.block_lt_of_cell? w _ hx600_2)).trans hx600_2; replace hx600_3 := (HB.out.cell (World.block_lt_of_cell? w _ hx600_3)).trans hx600_3; replace p600 := eq_true p600; replace q600 := eq_true q600; have hcz49_0 : w48.cell? ⟨gb584, 0, none⟩ = some (.string a1_0) := (blk_cell BK584.out 0).trans rfl; have hcz49_1 : w48.cell? ⟨gb584, 1, none⟩ = some (.int .i64 a1_1) := (blk_cell BK584.out 1).trans rfl; have hcz49_2 : w48.cell? ⟨gb584, 2, none⟩ = some (.string a1_2) := (blk_cell BK584.out 2).trans rfl; have hcz49_3 : w48.cell? ⟨gb584, 3, none⟩ = some (.bool a1_3) := (blk_cell BK584.out 3).trans rfl; have hfz49_0 := blk_frozen BK584.out 0; have hfz49_1 := blk_frozen BK584.out 1; have hfz49_2 := blk_frozen BK584.out 2; have hfz49_3 := blk_frozen BK584.out 3)))
                            go_roundg kj37
                            case measure => have := HJ3.out; have := HK2.out; have := HJ37.out; omega
                            case rel => exact ⟨(y597), (true), (wrap64 (x9_2 + 1)), (by first | rfl | (simp; done) | (simp [*]; done)), (by first | rfl | (simp; done) | (simp [*]; done)), H', ⟨by have := HJ3.out; have := HK2.out; have := HJ37.out; omega⟩, ⟨by (with_reducible repeat (first | apply Kd.R_alloc | apply Kd.R_drewN | apply Kd.R_drew)); exact HO599.out⟩, ⟨by (with_reducible repeat (first | refine blk_drewN ?_ _ | refine blk_drew ?_ | refine blk_alloc ?_ _)); exact BK584.out⟩, ⟨by repeat (first | (with_reducible first | exact HB.out | apply below_alloc | apply pw_below_drewN | apply below_drew1 | refine below_set ?_ GE584.out) | exact HB.out)⟩⟩
                          · rw [if_neg c46] at H
                            have c46b0 : (((rd_T47 l0 x9_2).f0).toList == a1_0.toList) = false := beq_eq_false_iff_ne.mpr c46
                            have c46b1 : (((rd_T47 l0 x9_2).f0).toList != a1_0.toList) = true := bne_iff_ne.mpr c46
                            by_cases c50 : y597.length < 2932031007402
                            · rw [if_pos c50] at H
                              have LMc50 := Aside0.mk c50
                              clear c50
                              obtain ⟨y602, hy602⟩ : ∃ y_ : List (S47), y_ = (y597 ++ [(⟨(rd_T47 l0 x9_2).f0, (rd_T47 l0 x9_2).f1, (rd_T47 l0 x9_2).f2, (rd_T47 l0 x9_2).f3⟩ : S47)]) := ⟨_, rfl⟩
                              replace H : (spec_l10Put.l0 kj37 l0 y602 true (wrap64 (x9_2 + 1)) a1_0 a1_1 a1_2 a1_3) = some (r1, r2) := by first | (rw [hy602]; with_reducible exact H) | (have H2_ := (Option.bind_some _ _).symm.trans H; rw [hy602]; with_reducible exact H2_) | (have H2_ := (Option.bind_some _ _).symm.trans H; with_reducible exact H2_) | with_reducible exact H | (rw [hy602]; exact H) | exact H
                              have Ny602 := Aside0.mk hy602
                              clear hy602
                              have H' := Aside0.mk H
                              clear H
                              have hcz51_0 : wc.cell? ⟨gb584, 0, none⟩ = some (.string a1_0) := (blk_cell BK584.out 0).trans rfl
                              have hcz51_1 : wc.cell? ⟨gb584, 1, none⟩ = some (.int .i64 a1_1) := (blk_cell BK584.out 1).trans rfl
                              have hcz51_2 : wc.cell? ⟨gb584, 2, none⟩ = some (.string a1_2) := (blk_cell BK584.out 2).trans rfl
                              have hcz51_3 : wc.cell? ⟨gb584, 3, none⟩ = some (.bool a1_3) := (blk_cell BK584.out 3).trans rfl
                              have hfz51_0 := blk_frozen BK584.out 0
                              have hfz51_1 := blk_frozen BK584.out 1
                              have hfz51_2 := blk_frozen BK584.out 2
                              have hfz51_3 := blk_frozen BK584.out 3
                              go_wp2_with (first | ((with_reducible refine gate_builtin (b := .append) (xs := #[.tmp 58, .tmp 60]) rfl ?_); at_builtin; refine Kd.R_append k47 (w0 := w) w.heap.size rfl (.tmp 58) (.tmp 60) 25 47 (.agg #[(.string ⟨#[]⟩), (.int .i64 0), (.string ⟨#[]⟩), (.bool false)]) 48 rfl Tryd.underlying25 info47 rfl (by decide) (by omega) u7 x7_2 (⟨a1_0, a1_1, a1_2, a1_3⟩ : S47) [.string a1_0, .int .i64 a1_1, .string a1_2, .bool a1_3] (fun k_ => k_ ≠ gb584) (fun _ => False) rfl rfl ?aP (fun _ hk => hk.elim) ?aF ?aO ?aB ?aS ?aL ?_; (case aP => exact k47_mkM _ _ _ (⟨a1_0, a1_1, a1_2, a1_3⟩ : S47)); (case aB => exact (by repeat (first | (with_reducible first | exact HB.out | apply below_alloc | apply pw_below_drewN | apply below_drew1 | refine below_set ?_ GE584.out) | exact HB.out))); (case aF => exact (fun k_ hk => Kd.freshB (g := gb584) (o := .cells #[.string a1_0, .int .i64 a1_1, .string a1_2, .bool a1_3] 47 (0, 0)) (by (with_reducible repeat (first | refine blk_drewN ?_ _ | refine blk_drew ?_ | refine blk_alloc ?_ _)); exact BK584.out) k_ hk)); (case aO => exact (by (with_reducible repeat (first | apply Kd.R_alloc | apply Kd.R_drewN | apply Kd.R_drew)); exact HO_7.out)); (case aS => exact (below_size (by repeat (first | (with_reducible first | exact HB.out | apply below_alloc | apply pw_below_drewN | apply below_drew1 | refine below_set ?_ GE584.out) | exact HB.out)))); (case aL => have := LMc43.out; omega); intro v598 w52 ho hb hg hat; rw [← Ny597.out] at ho; have n0_ := Aside0.mk (blk_grown (g := gb584) (o := .cells #[.string a1_0, .int .i64 a1_1, .string a1_2, .bool a1_3] 47 (0, 0)) (by (with_reducible repeat (first | refine blk_drewN ?_ _ | refine blk_drew ?_ | refine blk_alloc ?_ _)); exact BK584.out) hg (Kd.R_away HO_7.out (fun _ hk => hk))); have n1_ := Aside0.mk (hb); have n2_ := Aside0.mk (ho); clear BK584; clear HB; clear HO_7; have BK584 := n0_; have HB := n1_; have HO599 := n2_; clear n0_ n1_ n2_; clear ho hb hg hat; have p600 : 0 ≤ (x9_2 : Int) := of_decide_eq_true (by first | (with_reducible assumption) | assumption); have q600 : x9_2 < (l0.length : Int) := of_decide_eq_true (by first | (with_reducible assumption) | assumption); obtain ⟨ad600, e600, hx600_0, hx600_1, hx600_2, hx600_3⟩ := at_T47 HR0.out x9_2 p600 q600; cases e600; replace hx600_0 := (HB.out.cell (World.block_lt_of_cell? w _ hx600_0)).trans hx600_0; replace hx600_1 := (HB.out.cell (World.block_lt_of_cell? w _ hx600_1)).trans hx600_1; replace hx600_2 := (HB.out.cell (World.block_lt_of_cell? w _ hx600_2)).trans hx600_2; replace hx600_3 := (HB.out.cell (World.block_lt_of_cell? w _ hx600_3)).trans hx600_3; replace p600 := eq_true p600; replace q600 := eq_true q600; have hcz53_0 : w52.cell? ⟨gb584, 0, none⟩ = some (.string a1_0) := (blk_cell BK584.out 0).trans rfl; have hcz53_1 : w52.cell? ⟨gb584, 1, none⟩ = some (.int .i64 a1_1) := (blk_cell BK584.out 1).trans rfl; have hcz53_2 : w52.cell? ⟨gb584, 2, none⟩ = some (.string a1_2) := (blk_cell BK584.out 2).trans rfl; have hcz53_3 : w52.cell? ⟨gb584, 3, none⟩ = some (.bool a1_3) := (blk_cell BK584.out 3).trans rfl; have hfz53_0 := blk_frozen BK584.out 0; have hfz53_1 := blk_frozen BK584.out 1; have hfz53_2 := blk_frozen BK584.out 2; have hfz53_3 := blk_frozen BK584.out 3; have p601 : 0 ≤ (x9_2 : Int) := of_decide_eq_true (by first | (with_reducible assumption) | assumption); have q601 : x9_2 < (l0.length : Int) := of_decide_eq_true (by first | (with_reducible assumption) | assumption); obtain ⟨ad601, e601, hx601_0, hx601_1, hx601_2, hx601_3⟩ := at_T47 HR0.out x9_2 p601 q601; obtain rfl : ad600 = ad601 := (by injection e601); replace hx601_0 := (HB.out.cell (World.block_lt_of_cell? w _ hx601_0)).trans hx601_0; replace hx601_1 := (HB.out.cell (World.block_lt_of_cell? w _ hx601_1)).trans hx601_1; replace hx601_2 := (HB.out.cell (World.block_lt_of_cell? w _ hx601_2)).trans hx601_2; replace hx601_3 := (HB.out.cell (World.block_lt_of_cell? w _ hx601_3)).trans hx601_3; replace p601 := eq_true p601; replace q601 := eq_true q601) | ((with_reducible refine gate_builtin (b := .append) (xs := #[.tmp 70, .tmp 75]) rfl ?_); at_builtin; refine Kd.R_append k47 (w0 := w) w.heap.size rfl (.tmp 70) (.tmp 75) 25 47 (.agg #[(.string ⟨#[]⟩), (.int .i64 0), (.string ⟨#[]⟩), (.bool false)]) 48 rfl Tryd.underlying25 info47 rfl (by decide) (by omega) v598 y597 (⟨(rd_T47 l0 x9_2).f0, (rd_T47 l0 x9_2).f1, (rd_T47 l0 x9_2).f2, (rd_T47 l0 x9_2).f3⟩ : S47) [.string ((rd_T47 l0 x9_2).f0), .int .i64 ((rd_T47 l0 x9_2).f1), .string ((rd_T47 l0 x9_2).f2), .bool ((rd_T47 l0 x9_2).f3)] (fun k_ => k_ ≠ gb584) (fun _ => False) rfl rfl ?aP (fun _ hk => hk.elim) ?aF ?aO ?aB ?aS ?aL ?_; (case aP => exact k47_mkM _ _ _ (⟨(rd_T47 l0 x9_2).f0, (rd_T47 l0 x9_2).f1, (rd_T47 l0 x9_2).f2, (rd_T47 l0 x9_2).f3⟩ : S47)); (case aB => exact (by repeat (first | (with_reducible first | exact HB.out | apply below_alloc | apply pw_below_drewN | apply below_drew1 | refine below_set ?_ GE584.out) | exact HB.out))); (case aF => exact (fun k_ hk => Kd.freshB (g := gb584) (o := .cells #[.string a1_0, .int .i64 a1_1, .string a1_2, .bool a1_3] 47 (0, 0)) (by (with_reducible repeat (first | refine blk_drewN ?_ _ | refine blk_drew ?_ | refine blk_alloc ?_ _)); exact BK584.out) k_ hk)); (case aO => exact (by (with_reducible repeat (first | apply Kd.R_alloc | apply Kd.R_drewN | apply Kd.R_drew)); exact HO599.out)); (case aS => exact (below_size (by repeat (first | (with_reducible first | exact HB.out | apply below_alloc | apply pw_below_drewN | apply below_drew1 | refine below_set ?_ GE584.out) | exact HB.out)))); (case aL => have := LMc50.out; omega); intro v603 w54 ho hb hg hat; rw [← Ny602.out] at ho; have n0_ := Aside0.mk (blk_grown (g := gb584) (o := .cells #[.string a1_0, .int .i64 a1_1, .string a1_2, .bool a1_3] 47 (0, 0)) (by (with_reducible repeat (first | refine blk_drewN ?_ _ | refine blk_drew ?_ | refine blk_alloc ?_ _)); exact BK584.out) hg (Kd.R_away HO599.out (fun _ hk => hk))); have n1_ := Aside0.mk (hb); have n2_ := Aside0.mk (ho); clear BK584; clear HB; clear HO599; have BK584 := n0_; have HB := n1_; have HO604 := n2_; clear n0_ n1_ n2_; clear ho hb hg hat))
                              repeat (go_quiet (first | ((with_reducible refine gate_builtin (b := .append) (xs := #[.tmp 58, .tmp 60]) rfl ?_); at_builtin; refine Kd.R_append k47 (w0 := w) w.heap.size rfl (.tmp 58) (.tmp 60) 25 47 (.agg #[(.string ⟨#[]⟩), (.int .i64 0), (.string ⟨#[]⟩), (.bool false)]) 48 rfl Tryd.underlying25 info47 rfl (by decide) (by omega) u7 x7_2 (⟨a1_0, a1_1, a1_2, a1_3⟩ : S47) [.string a1_0, .int .i64 a1_1, .string a1_2, .bool a1_3] (fun k_ => k_ ≠ gb584) (fun _ => False) rfl rfl ?aP (fun _ hk => hk.elim) ?aF ?aO ?aB ?aS ?aL ?_; (case aP => exact k47_mkM _ _ _ (⟨a1_0, a1_1, a1_2, a1_3⟩ : S47)); (case aB => exact (by repeat (first | (with_reducible first | exact HB.out | apply below_alloc | apply pw_below_drewN | apply below_drew1 | refine below_set ?_ GE584.out) | exact HB.out))); (case aF => exact (fun k_ hk => Kd.freshB (g := gb584) (o := .cells #[.string a1_0, .int .i64 a1_1, .string a1_2, .bool a1_3] 47 (0, 0)) (by (with_reducible repeat (first | refine blk_drewN ?_ _ | refine blk_drew ?_ | refine blk_alloc ?_ _)); exact BK584.out) k_ hk)); (case aO => exact (by (with_reducible repeat (first | apply Kd.R_alloc | apply Kd.R_drewN | apply Kd.R_drew)); exact HO_7.out)); (case aS => exact (below_size (by repeat (first | (with_reducible first | exact HB.out | apply below_alloc | apply pw_below_drewN | apply below_drew1 | refine below_set ?_ GE584.out) | exact HB.out)))); (case aL => have := LMc43.out; omega); intro v598 w52 ho hb hg hat; rw [← Ny597.out] at ho; have n0_ := Aside0.mk (blk_grown (g := gb584) (o := .cells #[.string a1_0, .int .i64 a1_1, .string a1_2, .bool a1_3] 47 (0, 0)) (by (with_reducible repeat (first | refine blk_drewN ?_ _ | refine blk_drew ?_ | refine blk_alloc ?_ _)); exact BK584.out) hg (Kd.R_away HO_7.out (fun _ hk => hk))); have n1_ := Aside0.mk (hb); have n2_ := Aside0.mk (ho); clear BK584; clear HB; clear HO_7; have BK584 := n0_; have HB := n1_; have HO599 := n2_; clear n0_ n1_ n2_; clear ho hb hg hat; have p600 : 0 ≤ (x9_2 : Int) := of_decide_eq_true (by first | (with_reducible assumption) | assumption); have q600 : x9_2 < (l0.length : Int) := of_decide_eq_true (by first | (with_reducible assumption) | assumption); obtain ⟨ad600, e600, hx600_0, hx600_1, hx600_2, hx600_3⟩ := at_T47 HR0.out x9_2 p600 q600; cases e600; replace hx600_0 := (HB.out.cell (World.block_lt_of_cell? w _ hx600_0)).trans hx600_0; replace hx600_1 := (HB.out.cell (World.block_lt_of_cell? w _ hx600_1)).trans hx600_1; replace hx600_2 := (HB.out.cell (World.block_lt_of_cell? w _ hx600_2)).trans hx600_2; replace hx600_3 := (HB.out.cell (World.block_lt_of_cell? w _ hx600_3)).trans hx600_3; replace p600 := eq_true p600; replace q600 := eq_true q600; have hcz53_0 : w52.cell? ⟨gb584, 0, none⟩ = some (.string a1_0) := (blk_cell BK584.out 0).trans rfl; have hcz53_1 : w52.cell? ⟨gb584, 1, none⟩ = some (.int .i64 a1_1) := (blk_cell BK584.out 1).trans rfl; have hcz53_2 : w52.cell? ⟨gb584, 2, none⟩ = some (.string a1_2) := (blk_cell BK584.out 2).trans rfl; have hcz53_3 : w52.cell? ⟨gb584, 3, none⟩ = some (.bool a1_3) := (blk_cell BK584.out 3).trans rfl; have hfz53_0 := blk_frozen BK584.out 0; have hfz53_1 := blk_frozen BK584.out 1; have hfz53_2 := blk_frozen BK584.out 2; have hfz53_3 := blk_frozen BK584.out 3; have p601 : 0 ≤ (x9_2 : Int) := of_decide_eq_true (by first | (with_reducible assumption) | assumption); have q601 : x9_2 < (l0.length : Int) := of_decide_eq_true (by first | (with_reducible assumption) | assumption); obtain ⟨ad601, e601, hx601_0, hx601_1, hx601_2, hx601_3⟩ := at_T47 HR0.out x9_2 p601 q601; obtain rfl : ad600 = ad601 := (by injection e601); replace hx601_0 := (HB.out.cell (World.block_lt_of_cell? w _ hx601_0)).trans hx601_0; replace hx601_1 := (HB.out.cell (World.block_lt_of_cell? w _ hx601_1)).trans hx601_1; replace hx601_2 := (HB.out.cell (World.block_lt_of_cell? w _ hx601_2)).trans hx601_2; replace hx601_3 := (HB.out.cell (World.block_lt_of_cell? w _ hx601_3)).trans hx601_3; replace p601 := eq_true p601; replace q601 := eq_true q601) | ((with_reducible refine gate_builtin (b := .append) (xs := #[.tmp 70, .tmp 75]) rfl ?_); at_builtin; refine Kd.R_append k47 (w0 := w) w.heap.size rfl (.tmp 70) (.tmp 75) 25 47 (.agg #[(.string ⟨#[]⟩), (.int .i64 0), (.string ⟨#[]⟩), (.bool false)]) 48 rfl Tryd.underlying25 info47 rfl (by decide) (by omega) v598 y597 (⟨(rd_T47 l0 x9_2).f0, (rd_T47 l0 x9_2).f1, (rd_T47 l0 x9_2).f2, (rd_T47 l0 x9_2).f3⟩ : S47) [.string ((rd_T47 l0 x9_2).f0), .int .i64 ((rd_T47 l0 x9_2).f1), .string ((rd_T47 l0 x9_2).f2), .bool ((rd_T47 l0 x9_2).f3)] (fun k_ => k_ ≠ gb584) (fun _ => False) rfl rfl ?aP (fun _ hk => hk.elim) ?aF ?aO ?aB ?aS ?aL ?_; (case aP => exact k47_mkM _ _ _ (⟨(rd_T47 l0 x9_2).f0, (rd_T47 l0 x9_2).f1, (rd_T47 l0 x9_2).f2, (rd_T47 l0 x9_2).f3⟩ : S47)); (case aB => exact (by repeat (first | (with_reducible first | exact HB.out | apply below_alloc | apply pw_below_drewN | apply below_drew1 | refine below_set ?_ GE584.out) | exact HB.out))); (case aF => exact (fun k_ hk => Kd.freshB (g := gb584) (o := .cells #[.string a1_0, .int .i64 a1_1, .string a1_2, .bool a1_3] 47 (0, 0)) (by (with_reducible repeat (first | refine blk_drewN ?_ _ | refine blk_drew ?_ | refine blk_alloc ?_ _)); exact BK584.out) k_ hk)); (case aO => exact (by (with_reducible repeat (first | apply Kd.R_alloc | apply Kd.R_drewN | apply Kd.R_drew)); exact HO599.out)); (case aS => exact (below_size (by repeat (first | (with_reducible first | exact HB.out | apply below_alloc | apply pw_below_drewN | apply below_drew1 | refine below_set ?_ GE584.out) | exact HB.out)))); (case aL => have := LMc50.out; omega); intro v603 w54 ho hb hg hat; rw [← Ny602.out] at ho; have n0_ := Aside0.mk (blk_grown (g := gb584) (o := .cells #[.string a1_0, .int .i64 a1_1, .string a1_2, .bool a1_3] 47 (0, 0)) (by (with_reducible repeat (first | refine blk_drewN ?_ _ | refine blk_drew ?_ | refine blk_alloc ?_ _)); exact BK584.out) hg (Kd.R_away HO599.out (fun _ hk => hk))); have n1_ := Aside0.mk (hb); have n2_ := Aside0.mk (ho); clear BK584; clear HB; clear HO599; have BK584 := n0_; have HB := n1_; have HO604 := n2_; clear n0_ n1_ n2_; clear ho hb hg hat)); try go_wp2_with (first | ((with_reducible refine gate_builtin (b := .append) (xs := #[.tmp 58, .tmp 60]) rfl ?_); at_builtin; refine Kd.R_append k47 (w0 := w) w.heap.size rfl (.tmp 58) (.tmp 60) 25 47 (.agg #[(.string ⟨#[]⟩), (.int .i64 0), (.string ⟨#[]⟩), (.bool false)]) 48 rfl Tryd.underlying25 info47 rfl (by decide) (by omega) u7 x7_2 (⟨a1_0, a1_1, a1_2, a1_3⟩ : S47) [.string a1_0, .int .i64 a1_1, .string a1_2, .bool a1_3] (fun k_ => k_ ≠ gb584) (fun _ => False) rfl rfl ?aP (fun _ hk => hk.elim) ?aF ?aO ?aB ?aS ?aL ?_; (case aP => exact k47_mkM _ _ _ (⟨a1_0, a1_1, a1_2, a1_3⟩ : S47)); (case aB => exact (by repeat (first | (with_reducible first | exact HB.out | apply below_alloc | apply pw_below_drewN | apply below_drew1 | refine below_set ?_ GE584.out) | exact HB.out))); (case aF => exact (fun k_ hk => Kd.freshB (g := gb584) (o := .cells #[.string a1_0, .int .i64 a1_1, .string a1_2, .bool a1_3] 47 (0, 0)) (by (with_reducible repeat (first | refine blk_drewN ?_ _ | refine blk_drew ?_ | refine blk_alloc ?_ _)); exact BK584.out) k_ hk)); (case aO => exact (by (with_reducible repeat (first | apply Kd.R_alloc | apply Kd.R_drewN | apply Kd.R_drew)); exact HO_7.out)); (case aS => exact (below_size (by repeat (first | (with_reducible first | exact HB.out | apply below_alloc | apply pw_below_drewN | apply below_drew1 | refine below_set ?_ GE584.out) | exact HB.out)))); (case aL => have := LMc43.out; omega); intro v598 w52 ho hb hg hat; rw [← Ny597.out] at ho; have n0_ := Aside0.mk (blk_grown (g := gb584) (o := .cells #[.string a1_0, .int .i64 a1_1, .string a1_2, .bool a1_3] 47 (0, 0)) (by (with_reducible repeat (first | refine blk_drewN ?_ _ | refine blk_drew ?_ | refine blk_alloc ?_ _)); exact BK584.out) hg (Kd.R_away HO_7.out (fun _ hk => hk))); have n1_ := Aside0.mk (hb); have n2_ := Aside0.mk (ho); clear BK584; clear HB; clear HO_7; have BK584 := n0_; have HB := n1_; have HO599 := n2_; clear n0_ n1_ n2_; clear ho hb hg hat; have p600 : 0 ≤ (x9_2 : Int) := of_decide_eq_true (by first | (with_reducible assumption) | assumption); have q600 : x9_2 < (l0.length : Int) := of_decide_eq_true (by first | (with_reducible assumption) | assumption); obtain ⟨ad600, e600, hx600_0, hx600_1, hx600_2, hx600_3⟩ := at_T47 HR0.out x9_2 p600 q600; cases e600; replace hx600_0 := (HB.out.cell (World.block_lt_of_cell? w _ hx600_0)).trans hx600_0; replace hx600_1 := (HB.out.cell (World.block_lt_of_cell? w _ hx600_1)).trans hx600_1; replace hx600_2 := (HB.out.cell (World.block_lt_of_cell? w _ hx600_2)).trans hx600_2; replace hx600_3 := (HB.out.cell (World.block_lt_of_cell? w _ hx600_3)).trans hx600_3; replace p600 := eq_true p600; replace q600 := eq_true q600; have hcz53_0 : w52.cell? ⟨gb584, 0, none⟩ = some (.string a1_0) := (blk_cell BK584.out 0).trans rfl; have hcz53_1 : w52.cell? ⟨gb584, 1, none⟩ = some (.int .i64 a1_1) := (blk_cell BK584.out 1).trans rfl; have hcz53_2 : w52.cell? ⟨gb584, 2, none⟩ = some (.string a1_2) := (blk_cell BK584.out 2).trans rfl; have hcz53_3 : w52.cell? ⟨gb584, 3, none⟩ = some (.bool a1_3) := (blk_cell BK584.out 3).trans rfl; have hfz53_0 := blk_frozen BK584.out 0; have hfz53_1 := blk_frozen BK584.out 1; have hfz53_2 := blk_frozen BK584.out 2; have hfz53_3 := blk_frozen BK584.out 3; have p601 : 0 ≤ (x9_2 : Int) := of_decide_eq_true (by first | (with_reducible assumption) | assumption); have q601 : x9_2 < (l0.length : Int) := of_decide_eq_true (by first | (with_reducible assumption) | assumption); obtain ⟨ad601, e601, hx601_0, hx601_1, hx601_2, hx601_3⟩ := at_T47 HR0.out x9_2 p601 q601; obtain rfl : ad600 = ad601 := (by injection e601); replace hx601_0 := (HB.out.cell (World.block_lt_of_cell? w _ hx601_0)).trans hx601_0; replace hx601_1 := (HB.out.cell (World.block_lt_of_cell? w _ hx601_1)).trans hx601_1; replace hx601_2 := (HB.out.cell (World.block_lt_of_cell? w _ hx601_2)).trans hx601_2; replace hx601_3 := (HB.out.cell (World.block_lt_of_cell? w _ hx601_3)).trans hx601_3; replace p601 := eq_true p601; replace q601 := eq_true q601) | ((with_reducible refine gate_builtin (b := .append) (xs := #[.tmp 70, .tmp 75]) rfl ?_); at_builtin; refine Kd.R_append k47 (w0 := w) w.heap.size rfl (.tmp 70) (.tmp 75) 25 47 (.agg #[(.string ⟨#[]⟩), (.int .i64 0), (.string ⟨#[]⟩), (.bool false)]) 48 rfl Tryd.underlying25 info47 rfl (by decide) (by omega) v598 y597 (⟨(rd_T47 l0 x9_2).f0, (rd_T47 l0 x9_2).f1, (rd_T47 l0 x9_2).f2, (rd_T47 l0 x9_2).f3⟩ : S47) [.string ((rd_T47 l0 x9_2).f0), .int .i64 ((rd_T47 l0 x9_2).f1), .string ((rd_T47 l0 x9_2).f2), .bool ((rd_T47 l0 x9_2).f3)] (fun k_ => k_ ≠ gb584) (fun _ => False) rfl rfl ?aP (fun _ hk => hk.elim) ?aF ?aO ?aB ?aS ?aL ?_; (case aP => exact k47_mkM _ _ _ (⟨(rd_T47 l0 x9_2).f0, (rd_T47 l0 x9_2).f1, (rd_T47 l0 x9_2).f2, (rd_T47 l0 x9_2).f3⟩ : S47)); (case aB => exact (by repeat (first | (with_reducible first | exact HB.out | apply below_alloc | apply pw_below_drewN | apply below_drew1 | refine below_set ?_ GE584.out) | exact HB.out))); (case aF => exact (fun k_ hk => Kd.freshB (g := gb584) (o := .cells #[.string a1_0, .int .i64 a1_1, .string a1_2, .bool a1_3] 47 (0, 0)) (by (with_reducible repeat (first | refine blk_drewN ?_ _ | refine blk_drew ?_ | refine blk_alloc ?_ _)); exact BK584.out) k_ hk)); (case aO => exact (by (with_reducible repeat (first | apply Kd.R_alloc | apply Kd.R_drewN | apply Kd.R_drew)); exact HO599.out)); (case aS => exact (below_size (by repeat (first | (with_reducible first | exact HB.out | apply below_alloc | apply pw_below_drewN | apply below_drew1 | refine below_set ?_ GE584.out) | exact HB.out)))); (case aL => have := LMc50.out; omega); intro v603 w54 ho hb hg hat; rw [← Ny602.out] at ho; have n0_ := Aside0.mk (blk_grown (g := gb584) (o := .cells #[.string a1_0, .int .i64 a1_1, .string a1_2, .bool a1_3] 47 (0, 0)) (by (with_reducible repeat (first | refine blk_drewN ?_ _ | refine blk_drew ?_ | refine blk_alloc ?_ _)); exact BK584.out) hg (Kd.R_away HO599.out (fun _ hk => hk))); have n1_ := Aside0.mk (hb); have n2_ := Aside0.mk (ho); clear BK584; clear HB; clear HO599; have BK584 := n0_; have HB := n1_; have HO604 := n2_; clear n0_ n1_ n2_; clear ho hb hg hat)))
                              go_roundg kj37
                              case measure => have := HJ3.out; have := HK2.out; have := HJ37.out; omega
                              case rel => exact ⟨(y602), (true), (wrap64 (x9_2 + 1)), (by first | rfl | (simp; done) | (simp [*]; done)), (by first | rfl | (simp; done) | (simp [*]; done)), H', ⟨by have := HJ3.out; have := HK2.out; have := HJ37.out; omega⟩, ⟨by (with_reducible repeat (first | apply Kd.R_alloc | apply Kd.R_drewN | apply Kd.R_drew)); exact HO604.out⟩, ⟨by (with_reducible repeat (first | refine blk_drewN ?_ _ | refine blk_drew ?_ | refine blk_alloc ?_ _)); exact BK584.out⟩, ⟨by repeat (first | (with_reducible first | exact HB.out | apply below_alloc | apply pw_below_drewN | apply below_drew1 | refine below_set ?_ GE584.out) | exact HB.out)⟩⟩
                            · rw [if_neg c50] at H
                              exact absurd H (by simp)
                        · rw [if_neg c45] at H
                          exact absurd H (by simp)
                      · rw [if_neg c44] at H
                        exact absurd H (by simp)
                    · rw [if_neg c43] at H
                      exact absurd H (by simp)
                  · replace c42 := Bool.eq_false_iff.mpr c42
                    subst c42
                    have H1 : (if 0 ≤ x9_2 then (if x9_2 < (l0.length : Int) then (if ((rd_T47 l0 x9_2).f0).toList = a1_0.toList then (spec_l10Put.l0 kj37 l0 x7_2 x8_2 (wrap64 (x9_2 + 1)) a1_0 a1_1 a1_2 a1_3) else (if x7_2.length < 2932031007402 then (spec_l10Put.l0 kj37 l0 (x7_2 ++ [(⟨(rd_T47 l0 x9_2).f0, (rd_T47 l0 x9_2).f1, (rd_T47 l0 x9_2).f2, (rd_T47 l0 x9_2).f3⟩ : S47)]) x8_2 (wrap64 (x9_2 + 1)) a1_0 a1_1 a1_2 a1_3) else (none))) else (none)) else (none)) = some (r1, r2) := by rw [if_neg (show ¬ (false = true) by decide)] at H; exact H
                    clear H
                    have H := H1
                    clear H1
                    by_cases c55 : 0 ≤ x9_2
                    · rw [if_pos c55] at H
                      have c55b0 : decide (0 ≤ x9_2) = true := decide_eq_true c55
                      clear c55
                      by_cases c56 : x9_2 < (l0.length : Int)
                      · rw [if_pos c56] at H
                        have c56b0 : decide (x9_2 < (l0.length : Int)) = true := decide_eq_true c56
                        clear c56
                        by_cases c57 : ((rd_T47 l0 x9_2).f0).toList = a1_0.toList
                        · rw [if_pos c57] at H
                          have c57b0 : (((rd_T47 l0 x9_2).f0).toList == a1_0.toList) = true := beq_iff_eq.mpr c57
                          have c57b1 : (((rd_T47 l0 x9_2).f0).toList != a1_0.toList) = false := bne_eq_false_iff_eq.mpr c57
                          clear c57
                          have H' := Aside0.mk H
                          clear H
                          have p605 : 0 ≤ (x9_2 : Int) := of_decide_eq_true (by first | (with_reducible assumption) | assumption)
                          have q605 : x9_2 < (l0.length : Int) := of_decide_eq_true (by first | (with_reducible assumption) | assumption)
                          obtain ⟨ad605, e605, hx605_0, hx605_1, hx605_2, hx605_3⟩ := at_T47 HR0.out x9_2 p605 q605
                          cases e605
                          replace hx605_0 := (HB.out.cell (World.block_lt_of_cell? w _ hx605_0)).trans hx605_0
                          replace hx605_1 := (HB.out.cell (World.block_lt_of_cell? w _ hx605_1)).trans hx605_1
                          replace hx605_2 := (HB.out.cell (World.block_lt_of_cell? w _ hx605_2)).trans hx605_2
                          replace hx605_3 := (HB.out.cell (World.block_lt_of_cell? w _ hx605_3)).trans hx605_3
                          replace p605 := eq_true p605
                          replace q605 := eq_true q605
                          have hcz58_0 : wc.cell? ⟨gb584, 0, none⟩ = some (.string a1_0) := (blk_cell BK584.out 0).trans rfl
                          have hcz58_1 : wc.cell? ⟨gb584, 1, none⟩ = some (.int .i64 a1_1) := (blk_cell BK584.out 1).trans rfl
                          have hcz58_2 : wc.cell? ⟨gb584, 2, none⟩ = some (.string a1_2) := (blk_cell BK584.out 2).trans rfl
                          have hcz58_3 : wc.cell? ⟨gb584, 3, none⟩ = some (.bool a1_3) := (blk_cell BK584.out 3).trans rfl
                          have hfz58_0 := blk_frozen BK584.out 0
                          have hfz58_1 := blk_frozen BK584.out 1
                          have hfz58_2 := blk_frozen BK584.out 2
                          have hfz58_3 := blk_frozen BK584.out 3
                          go_wp2
                          repeat (go_quiet (fail); try go_wp2)
                          go_roundg kj37
                          case measure => have := HJ3.out; have := HK2.out; have := HJ37.out; omega
                          case rel => exact ⟨(x7_2), (x8_2), (wrap64 (x9_2 + 1)), (by first | rfl | (simp; done) | (simp [*]; done)), (by first | rfl | (simp; done) | (simp [*]; done)), H', ⟨by have := HJ3.out; have := HK2.out; have := HJ37.out; omega⟩, ⟨by (with_reducible repeat (first | apply Kd.R_alloc | apply Kd.R_drewN | apply Kd.R_drew)); exact HO_7.out⟩, ⟨by (with_reducible repeat (first | refine blk_drewN ?_ _ | refine blk_drew ?_ | refine blk_alloc ?_ _)); exact BK584.out⟩, ⟨by repeat (first | (with_reducible first | exact HB.out | apply below_alloc | apply pw_below_drewN | apply below_drew1 | refine below_set ?_ GE584.out) | exact HB.out)⟩⟩
                        · rw [if_neg c57] at H
                          have c57b0 : (((rd_T47 l0 x9_2).f0).toList == a1_0.toList) = false := beq_eq_false_iff_ne.mpr c57
                          have c57b1 : (((rd_T47 l0 x9_2).f0).toList != a1_0.toList) = true := bne_iff_ne.mpr c57
                          by_cases c59 : x7_2.length < 2932031007402
                          · rw [if_pos c59] at H
                            have LMc59 := Aside0.mk c59
                            clear c59
                            obtain ⟨y607, hy607⟩ : ∃ y_ : List (S47), y_ = (x7_2 ++ [(⟨(rd_T47 l0 x9_2).f0, (rd_T47 l0 x9_2).f1, (rd_T47 l0 x9_2).f2, (rd_T47 l0 x9_2).f3⟩ : S47)]) := ⟨_, rfl⟩
                            replace H : (spec_l10Put.l0 kj37 l0 y607 x8_2 (wrap64 (x9_2 + 1)) a1_0 a1_1 a1_2 a1_3) = some (r1, r2) := by first | (rw [hy607]; with_reducible exact H) | (have H2_ := (Option.bind_some _ _).symm.trans H; rw [hy607]; with_reducible exact H2_) | (have H2_ := (Option.bind_some _ _).symm.trans H; with_reducible exact H2_) | with_reducible exact H | (rw [hy607]; exact H) | exact H
                            have Ny607 := Aside0.mk hy607
                            clear hy607
                            have H' := Aside0.mk H
                            clear H
                            have p605 : 0 ≤ (x9_2 : Int) := of_decide_eq_true (by first | (with_reducible assumption) | assumption)
                            have q605 : x9_2 < (l0.length : Int) := of_decide_eq_true (by first | (with_reducible assumption) | assumption)
                            obtain ⟨ad605, e605, hx605_0, hx605_1, hx605_2, hx605_3⟩ := at_T47 HR0.out x9_2 p605 q605
                            cases e605
                            replace hx605_0 := (HB.out.cell (World.block_lt_of_cell? w _ hx605_0)).trans hx605_0
                            replace hx605_1 := (HB.out.cell (World.block_lt_of_cell? w _ hx605_1)).trans hx605_1
                            replace hx605_2 := (HB.out.cell (World.block_lt_of_cell? w _ hx605_2)).trans hx605_2
                            replace hx605_3 := (HB.out.cell (World.block_lt_of_cell? w _ hx605_3)).trans hx605_3
                            replace p605 := eq_true p605
                            replace q605 := eq_true q605
                            have hcz60_0 : wc.cell? ⟨gb584, 0, none⟩ = some (.string a1_0) := (blk_cell BK584.out 0).trans rfl
                            have hcz60_1 : wc.cell? ⟨gb584, 1, none⟩ = some (.int .i64 a1_1) := (blk_cell BK584.out 1).trans rfl
                            have hcz60_2 : wc.cell? ⟨gb584, 2, none⟩ = some (.string a1_2) := (blk_cell BK584.out 2).trans rfl
                            have hcz60_3 : wc.cell? ⟨gb584, 3, none⟩ = some (.bool a1_3) := (blk_cell BK584.out 3).trans rfl
                            have hfz60_0 := blk_frozen BK584.out 0
                            have hfz60_1 := blk_frozen BK584.out 1
                            have hfz60_2 := blk_frozen BK584.out 2
                            have hfz60_3 := blk_frozen BK584.out 3
                            have p606 : 0 ≤ (x9_2 : Int) := of_decide_eq_true (by first | (with_reducible assumption) | assumption)
                            have q606 : x9_2 < (l0.length : Int) := of_decide_eq_true (by first | (with_reducible assumption) | assumption)
                            obtain ⟨ad606, e606, hx606_0, hx606_1, hx606_2, hx606_3⟩ := at_T47 HR0.out x9_2 p606 q606
                            obtain rfl : ad605 = ad606 := (by injection e606)
                            replace hx606_0 := (HB.out.cell (World.block_lt_of_cell? w _ hx606_0)).trans hx606_0
                            replace hx606_1 := (HB.out.cell (World.block_lt_of_cell? w _ hx606_1)).trans hx606_1
                            replace hx606_2 := (HB.out.cell (World.block_lt_of_cell? w _ hx606_2)).trans hx606_2
                            replace hx606_3 := (HB.out.cell (World.block_lt_of_cell? w _ hx606_3)).trans hx606_3
                            replace p606 := eq_true p606
                            replace q606 := eq_true q606
                            go_wp2_with (first | ((with_reducible refine gate_builtin (b := .append) (xs := #[.tmp 70, .tmp 75]) rfl ?_); at_builtin; refine Kd.R_append k47 (w0 := w) w.heap.size rfl (.tmp 70) (.tmp 75) 25 47 (.agg #[(.string ⟨#[]⟩), (.int .i64 0), (.string ⟨#[]⟩), (.bool false)]) 48 rfl Tryd.underlying25 info47 rfl (by decide) (by omega) u7 x7_2 (⟨(rd_T47 l0 x9_2).f0, (rd_T47 l0 x9_2).f1, (rd_T47 l0 x9_2).f2, (rd_T47 l0 x9_2).f3⟩ : S47) [.string ((rd_T47 l0 x9_2).f0), .int .i64 ((rd_T47 l0 x9_2).f1), .string ((rd_T47 l0 x9_2).f2), .bool ((rd_T47 l0 x9_2).f3)] (fun k_ => k_ ≠ gb584) (fun _ => False) rfl rfl ?aP (fun _ hk => hk.elim) ?aF ?aO ?aB ?aS ?aL ?_; (case aP => exact k47_mkM _ _ _ (⟨(rd_T47 l0 x9_2).f0, (rd_T47 l0 x9_2).f1, (rd_T47 l0 x9_2).f2, (rd_T47 l0 x9_2).f3⟩ : S47)); (case aB => exact (by repeat (first | (with_reducible first | exact HB.out | apply below_alloc | apply pw_below_drewN | apply below_drew1 | refine below_set ?_ GE584.out) | exact HB.out))); (case aF => exact (fun k_ hk => Kd.freshB (g := gb584) (o := .cells #[.string a1_0, .int .i64 a1_1, .string a1_2, .bool a1_3] 47 (0, 0)) (by (with_reducible repeat (first | refine blk_drewN ?_ _ | refine blk_drew ?_ | refine blk_alloc ?_ _)); exact BK584.out) k_ hk)); (case aO => exact (by (with_reducible repeat (first | apply Kd.R_alloc | apply Kd.R_drewN | apply Kd.R_drew)); exact HO_7.out)); (case aS => exact (below_size (by repeat (first | (with_reducible first | exact HB.out | apply below_alloc | apply pw_below_drewN | apply below_drew1 | refine below_set ?_ GE584.out) | exact HB.out)))); (case aL => have := LMc59.out; omega); intro v608 w61 ho hb hg hat; rw [← Ny607.out] at ho; have n0_ := Aside0.mk (blk_grown (g := gb584) (o := .cells #[.string a1_0, .int .i64 a1_1, .string a1_2, .bool a1_3] 47 (0, 0)) (by (with_reducible repeat (first | refine blk_drewN ?_ _ | refine blk_drew ?_ | refine blk_alloc ?_ _)); exact BK584.out) hg (Kd.R_away HO_7.out (fun _ hk => hk))); have n1_ := Aside0.mk (hb); have n2_ := Aside0.mk (ho); clear BK584; clear HB; clear HO_7; have BK584 := n0_; have HB := n1_; have HO609 := n2_; clear n0_ n1_ n2_; clear ho hb hg hat))
                            repeat (go_quiet (first | ((with_reducible refine gate_builtin (b := .append) (xs := #[.tmp 70, .tmp 75]) rfl ?_); at_builtin; refine Kd.R_append k47 (w0 := w) w.heap.size rfl (.tmp 70) (.tmp 75) 25 47 (.agg #[(.string ⟨#[]⟩), (.int .i64 0), (.string ⟨#[]⟩), (.bool false)]) 48 rfl Tryd.underlying25 info47 rfl (by decide) (by omega) u7 x7_2 (⟨(rd_T47 l0 x9_2).f0, (rd_T47 l0 x9_2).f1, (rd_T47 l0 x9_2).f2, (rd_T47 l0 x9_2).f3⟩ : S47) [.string ((rd_T47 l0 x9_2).f0), .int .i64 ((rd_T47 l0 x9_2).f1), .string ((rd_T47 l0 x9_2).f2), .bool ((rd_T47 l0 x9_2).f3)] (fun k_ => k_ ≠ gb584) (fun _ => False) rfl rfl ?aP (fun _ hk => hk.elim) ?aF ?aO ?aB ?aS ?aL ?_; (case aP => exact k47_mkM _ _ _ (⟨(rd_T47 l0 x9_2).f0, (rd_T47 l0 x9_2).f1, (rd_T47 l0 x9_2).f2, (rd_T47 l0 x9_2).f3⟩ : S47)); (case aB => exact (by repeat (first | (with_reducible first | exact HB.out | apply below_alloc | apply pw_below_drewN | apply below_drew1 | refine below_set ?_ GE584.out) | exact HB.out))); (case aF => exact (fun k_ hk => Kd.freshB (g := gb584) (o := .cells #[.string a1_0, .int .i64 a1_1, .string a1_2, .bool a1_3] 47 (0, 0)) (by (with_reducible repeat (first | refine blk_drewN ?_ _ | refine blk_drew ?_ | refine blk_alloc ?_ _)); exact BK584.out) k_ hk)); (case aO => exact (by (with_reducible repeat (first | apply Kd.R_alloc | apply Kd.R_drewN | apply Kd.R_drew)); exact HO_7.out)); (case aS => exact (below_size (by repeat (first | (with_reducible first | exact HB.out | apply below_alloc | apply pw_below_drewN | apply below_drew1 | refine below_set ?_ GE584.out) | exact HB.out)))); (case aL => have := LMc59.out; omega); intro v608 w61 ho hb hg hat; rw [← Ny607.out] at ho; have n0_ := Aside0.mk (blk_grown (g := gb584) (o := .cells #[.string a1_0, .int .i64 a1_1, .string a1_2, .bool a1_3] 47 (0, 0)) (by (with_reducible repeat (first | refine blk_drewN ?_ _ | refine blk_drew ?_ | refine blk_alloc ?_ _)); exact BK584.out) hg (Kd.R_away HO_7.out (fun _ hk => hk))); have n1_ := Aside0.mk (hb); have n2_ := Aside0.mk (ho); clear BK584; clear HB; clear HO_7; have BK584 := n0_; have HB := n1_; have HO609 := n2_; clear n0_ n1_ n2_; clear ho hb hg hat)); try go_wp2_with (first | ((with_reducible refine gate_builtin (b := .append) (xs := #[.tmp 70, .tmp 75]) rfl ?_); at_builtin; refine Kd.R_append k47 (w0 := w) w.heap.size rfl (.tmp 70) (.tmp 75) 25 47 (.agg #[(.string ⟨#[]⟩), (.int .i64 0), (.string ⟨#[]⟩), (.bool false)]) 48 rfl Tryd.underlying25 info47 rfl (by decide) (by omega) u7 x7_2 (⟨(rd_T47 l0 x9_2).f0, (rd_T47 l0 x9_2).f1, (rd_T47 l0 x9_2).f2, (rd_T47 l0 x9_2).f3⟩ : S47) [.string ((rd_T47 l0 x9_2).f0), .int .i64 ((rd_T47 l0 x9_2).f1), .string ((rd_T47 l0 x9_2).f2), .bool ((rd_T47 l0 x9_2).f3)] (fun k_ => k_ ≠ gb584) (fun _ => False) rfl rfl ?aP (fun _ hk => hk.elim) ?aF ?aO ?aB ?aS ?aL ?_; (case aP => exact k47_mkM _ _ _ (⟨(rd_T47 l0 x9_2).f0, (rd_T47 l0 x9_2).f1, (rd_T47 l0 x9_2).f2, (rd_T47 l0 x9_2).f3⟩ : S47)); (case aB => exact (by repeat (first | (with_reducible first | exact HB.out | apply below_alloc | apply pw_below_drewN | apply below_drew1 | refine below_set ?_ GE584.out) | exact HB.out))); (case aF => exact (fun k_ hk => Kd.freshB (g := gb584) (o := .cells #[.string a1_0, .int .i64 a1_1, .string a1_2, .bool a1_3] 47 (0, 0)) (by (with_reducible repeat (first | refine blk_drewN ?_ _ | refine blk_drew ?_ | refine blk_alloc ?_ _)); exact BK584.out) k_ hk)); (case aO => exact (by (with_reducible repeat (first | apply Kd.R_alloc | apply Kd.R_drewN | apply Kd.R_drew)); exact HO_7.out)); (case aS => exact (below_size (by repeat (first | (with_reducible first | exact HB.out | apply below_alloc | apply pw_below_drewN | apply below_drew1 | refine below_set ?_ GE584.out) | exact HB.out)))); (case aL => have := LMc59.out; omega); intro v608 w61 ho hb hg hat; rw [← Ny607.out] at ho; have n0_ := Aside0.mk (blk_grown (g := gb584) (o := .cells #[.string a1_0, .int .i64 a1_1, .string a1_2, .bool a1_3] 47 (0, 0)) (by (with_reducible repeat (first | refine blk_drewN ?_ _ | refine blk_drew ?_ | refine blk_alloc ?_ _)); exact BK584.out) hg (Kd.R_away HO_7.out (fun _ hk => hk))); have n1_ := Aside0.mk (hb); have n2_ := Aside0.mk (ho); clear BK584; clear HB; clear HO_7; have BK584 := n0_; have HB := n1_; have HO609 := n2_; clear n0_ n1_ n2_; clear ho hb hg hat)))
                            go_roundg kj37
                            case measure => have := HJ3.out; have := HK2.out; have := HJ37.out; omega
                            case rel => exact ⟨(y607), (x8_2), (wrap64 (x9_2 + 1)), (by first | rfl | (simp; done) | (simp [*]; done)), (by first | rfl | (simp; done) | (simp [*]; done)), H', ⟨by have := HJ3.out; have := HK2.out; have := HJ37.out; omega⟩, ⟨by (with_reducible repeat (first | apply Kd.R_alloc | apply Kd.R_drewN | apply Kd.R_drew)); exact HO609.out⟩, ⟨by (with_reducible repeat (first | refine blk_drewN ?_ _ | refine blk_drew ?_ | refine blk_alloc ?_ _)); exact BK584.out⟩, ⟨by repeat (first | (with_reducible first | exact HB.out | apply below_alloc | apply pw_below_drewN | apply below_drew1 | refine below_set ?_ GE584.out) | exact HB.out)⟩⟩
                          · rw [if_neg c59] at H
                            exact absurd H (by simp)
                      · rw [if_neg c56] at H
                        exact absurd H (by simp)
                    · rw [if_neg c55] at H
                      exact absurd H (by simp)
            · rw [if_neg c37] at H
              have c37b0 : decide (x9_2 < (l0.length : Int)) = false := decide_eq_false c37
              clear c37
              by_cases c62 : x8_2 = true
              · subst c62
                have H1 : (if (x7_2.length : Int) > 500 then ((spec_l10Copy.f l0).bind fun t610 => (some (t610, false))) else (some (x7_2, true))) = some (r1, r2) := by rw [if_pos rfl] at H; exact H
                clear H
                have H := H1
                clear H1
                by_cases c63 : (x7_2.length : Int) > 500
                · rw [if_pos c63] at H
                  have c63b0 : decide (500 < (x7_2.length : Int)) = true := decide_eq_true c63
                  have c63b1 : decide (500 < x7_2.length) = true := decide_eq_true (by omega)
                  clear c63
                  replace H := Option.bind_eq_some_iff.mp H
                  obtain ⟨t610, A640, H⟩ := H
                  replace H : (some (t610, false)) = some (r1, r2) := H
                  have A64 := Aside0.mk A640
                  clear A640
                  simp only [Option.some.injEq, Prod.mk.injEq] at H
                  obtain ⟨rfl, rfl⟩ := H
                  obtain ⟨Ao65, co65, eo65⟩ := Kd.R_slice HO_7.out
                  subst eo65
                  go_wp2_with (first | (go_at_call 57; (with_reducible refine (spec_l10Copy.calls _ _ l0 t610 _ ?side1 ?side2 A64.out).mono ?_); (case side1 => repeat (first | exact (Kd.C_below HR0.out HB.out) | (with_reducible refine Kd.C_alloc ?_ _) | (with_reducible refine Kd.C_drewN ?_ _) | (with_reducible refine Kd.C_drew ?_))); (case side2 => exact HC0.out); rintro e w66 ⟨v611, rfl, ho0, hb⟩; have n0_ := Aside0.mk (Kd.R_elder' (by (with_reducible repeat (first | apply Kd.R_alloc | apply Kd.R_drewN | apply Kd.R_drew)); exact HO_7.out) (Kd.R_base ho0) hb); have n1_ := Aside0.mk (Kd.R_lower (Kd.R_newB (Kd.R_new' ho0 (Kd.R_lt (by (with_reducible repeat (first | apply Kd.R_alloc | apply Kd.R_drewN | apply Kd.R_drew)); exact HO_7.out))) (g := gb584) (o := .cells #[.string a1_0, .int .i64 a1_1, .string a1_2, .bool a1_3] 47 (0, 0)) (by (with_reducible repeat (first | refine blk_drewN ?_ _ | refine blk_drew ?_ | refine blk_alloc ?_ _)); exact BK584.out)) (below_size (by repeat (first | (with_reducible first | exact HB.out | apply below_alloc | apply pw_below_drewN | apply below_drew1 | refine below_set ?_ GE584.out) | exact HB.out)))); have n2_ := Aside0.mk (blk_below (g := gb584) (o := .cells #[.string a1_0, .int .i64 a1_1, .string a1_2, .bool a1_3] 47 (0, 0)) (by (with_reducible repeat (first | refine blk_drewN ?_ _ | refine blk_drew ?_ | refine blk_alloc ?_ _)); exact BK584.out) hb); have n3_ := Aside0.mk (below_step (by repeat (first | (with_reducible first | exact HB.out | apply below_alloc | apply pw_below_drewN | apply below_drew1 | refine below_set ?_ GE584.out) | exact HB.out)) hb); clear HO_7; clear BK584; clear HB; have HO_7 := n0_; have HO612 := n1_; have BK584 := n2_; have HB := n3_; clear n0_ n1_ n2_ n3_; (try clear hb); (try clear hb2); (try clear hk); (try clear hi); (try clear ho0)))
                  repeat (go_quiet (first | (go_at_call 57; (with_reducible refine (spec_l10Copy.calls _ _ l0 t610 _ ?side1 ?side2 A64.out).mono ?_); (case side1 => repeat (first | exact (Kd.C_below HR0.out HB.out) | (with_reducible refine Kd.C_alloc ?_ _) | (with_reducible refine Kd.C_drewN ?_ _) | (with_reducible refine Kd.C_drew ?_))); (case side2 => exact HC0.out); rintro e w66 ⟨v611, rfl, ho0, hb⟩; have n0_ := Aside0.mk (Kd.R_elder' (by (with_reducible repeat (first | apply Kd.R_alloc | apply Kd.R_drewN | apply Kd.R_drew)); exact HO_7.out) (Kd.R_base ho0) hb); have n1_ := Aside0.mk (Kd.R_lower (Kd.R_newB (Kd.R_new' ho0 (Kd.R_lt (by (with_reducible repeat (first | apply Kd.R_alloc | apply Kd.R_drewN | apply Kd.R_drew)); exact HO_7.out))) (g := gb584) (o := .cells #[.string a1_0, .int .i64 a1_1, .string a1_2, .bool a1_3] 47 (0, 0)) (by (with_reducible repeat (first | refine blk_drewN ?_ _ | refine blk_drew ?_ | refine blk_alloc ?_ _)); exact BK584.out)) (below_size (by repeat (first | (with_reducible first | exact HB.out | apply below_alloc | apply pw_below_drewN | apply below_drew1 | refine below_set ?_ GE584.out) | exact HB.out)))); have n2_ := Aside0.mk (blk_below (g := gb584) (o := .cells #[.string a1_0, .int .i64 a1_1, .string a1_2, .bool a1_3] 47 (0, 0)) (by (with_reducible repeat (first | refine blk_drewN ?_ _ | refine blk_drew ?_ | refine blk_alloc ?_ _)); exact BK584.out) hb); have n3_ := Aside0.mk (below_step (by repeat (first | (with_reducible first | exact HB.out | apply below_alloc | apply pw_below_drewN | apply below_drew1 | refine below_set ?_ GE584.out) | exact HB.out)) hb); clear HO_7; clear BK584; clear HB; have HO_7 := n0_; have HO612 := n1_; have BK584 := n2_; have HB := n3_; clear n0_ n1_ n2_ n3_; (try clear hb); (try clear hb2); (try clear hk); (try clear hi); (try clear ho0))); try go_wp2_with (first | (go_at_call 57; (with_reducible refine (spec_l10Copy.calls _ _ l0 t610 _ ?side1 ?side2 A64.out).mono ?_); (case side1 => repeat (first | exact (Kd.C_below HR0.out HB.out) | (with_reducible refine Kd.C_alloc ?_ _) | (with_reducible refine Kd.C_drewN ?_ _) | (with_reducible refine Kd.C_drew ?_))); (case side2 => exact HC0.out); rintro e w66 ⟨v611, rfl, ho0, hb⟩; have n0_ := Aside0.mk (Kd.R_elder' (by (with_reducible repeat (first | apply Kd.R_alloc | apply Kd.R_drewN | apply Kd.R_drew)); exact HO_7.out) (Kd.R_base ho0) hb); have n1_ := Aside0.mk (Kd.R_lower (Kd.R_newB (Kd.R_new' ho0 (Kd.R_lt (by (with_reducible repeat (first | apply Kd.R_alloc | apply Kd.R_drewN | apply Kd.R_drew)); exact HO_7.out))) (g := gb584) (o := .cells #[.string a1_0, .int .i64 a1_1, .string a1_2, .bool a1_3] 47 (0, 0)) (by (with_reducible repeat (first | refine blk_drewN ?_ _ | refine blk_drew ?_ | refine blk_alloc ?_ _)); exact BK584.out)) (below_size (by repeat (first | (with_reducible first | exact HB.out | apply below_alloc | apply pw_below_drewN | apply below_drew1 | refine below_set ?_ GE584.out) | exact HB.out)))); have n2_ := Aside0.mk (blk_below (g := gb584) (o := .cells #[.string a1_0, .int .i64 a1_1, .string a1_2, .bool a1_3] 47 (0, 0)) (by (with_reducible repeat (first | refine blk_drewN ?_ _ | refine blk_drew ?_ | refine blk_alloc ?_ _)); exact BK584.out) hb); have n3_ := Aside0.mk (below_step (by repeat (first | (with_reducible first | exact HB.out | apply below_alloc | apply pw_below_drewN | apply below_drew1 | refine below_set ?_ GE584.out) | exact HB.out)) hb); clear HO_7; clear BK584; clear HB; have HO_7 := n0_; have HO612 := n1_; have BK584 := n2_; have HB := n3_; clear n0_ n1_ n2_ n3_; (try clear hb); (try clear hb2); (try clear hk); (try clear hi); (try clear ho0))))
                  go_ret2
                  exact ⟨_, by first | rfl | (simp [errW_none, errW_some] <;> rfl) | (simp [*, errW_none, errW_some] <;> rfl), by (with_reducible repeat (first | apply Kd.R_alloc | apply Kd.R_drewN | apply Kd.R_drew)); exact Kd.R_mono HO612.out (fun _ hk => trivial), by repeat (first | (with_reducible first | exact HB.out | apply below_alloc | apply pw_below_drewN | apply below_drew1 | refine below_set ?_ GE584.out) | exact HB.out)⟩
                · rw [if_neg c63] at H
                  have c63b0 : decide (500 < (x7_2.length : Int)) = false := decide_eq_false c63
                  have c63b1 : decide (500 < x7_2.length) = false := decide_eq_false (by omega)
                  clear c63
                  simp only [Option.some.injEq, Prod.mk.injEq] at H
                  obtain ⟨rfl, rfl⟩ := H
                  obtain ⟨Ao67, co67, eo67⟩ := Kd.R_slice HO_7.out
                  subst eo67
                  go_wp2
                  repeat (go_quiet (fail); try go_wp2)
                  go_ret2
                  exact ⟨_, by first | rfl | (simp [errW_none, errW_some] <;> rfl) | (simp [*, errW_none, errW_some] <;> rfl), by (with_reducible repeat (first | apply Kd.R_alloc | apply Kd.R_drewN | apply Kd.R_drew)); exact Kd.R_mono HO_7.out (fun _ hk => trivial), by repeat (first | (with_reducible first | exact HB.out | apply below_alloc | apply pw_below_drewN | apply below_drew1 | refine below_set ?_ GE584.out) | exact HB.out)⟩
              · replace c62 := Bool.eq_false_iff.mpr c62
                subst c62
                have H1 : (if x7_2.length < 2932031007402 then ((some (x7_2 ++ [(⟨a1_0, a1_1, a1_2, a1_3⟩ : S47)] : List (S47))).bind fun y613 => (if (y613.length : Int) > 500 then ((spec_l10Copy.f l0).bind fun t616 => (some (t616, false))) else (some (y613, true)))) else (none)) = some (r1, r2) := by rw [if_neg (show ¬ (false = true) by decide)] at H; exact H
                clear H
                have H := H1
                clear H1
                by_cases c68 : x7_2.length < 2932031007402
                · rw [if_pos c68] at H
                  have LMc68 := Aside0.mk c68
                  clear c68
                  obtain ⟨y613, hy613⟩ : ∃ y_ : List (S47), y_ = (x7_2 ++ [(⟨a1_0, a1_1, a1_2, a1_3⟩ : S47)]) := ⟨_, rfl⟩
                  replace H : (if (y613.length : Int) > 500 then ((spec_l10Copy.f l0).bind fun t616 => (some (t616, false))) else (some (y613, true))) = some (r1, r2) := by first | (rw [hy613]; with_reducible exact H) | (have H2_ := (Option.bind_some _ _).symm.trans H; rw [hy613]; with_reducible exact H2_) | (have H2_ := (Option.bind_some _ _).symm.trans H; with_reducible exact H2_) | with_reducible exact H | (rw [hy613]; exact H) | exact H
                  have Ny613 := Aside0.mk hy613
                  clear hy613
                  by_cases c69 : (y613.length : Int) > 500
                  · rw [if_pos c69] at H
                    have c69b0 : decide (500 < (y613.length : Int)) = true := decide_eq_true c69
                    have c69b1 : decide (500 < y613.length) = true := decide_eq_true (by omega)
                    clear c69
                    replace H := Option.bind_eq_some_iff.mp H
                    obtain ⟨t616, A700, H⟩ := H
                    replace H : (some (t616, false)) = some (r1, r2) := H
                    have A70 := Aside0.mk A700
                    clear A700
                    simp only [Option.some.injEq, Prod.mk.injEq] at H
                    obtain ⟨rfl, rfl⟩ := H
                    have hcz71_0 : wr.cell? ⟨gb584, 0, none⟩ = some (.string a1_0) := (blk_cell BK584.out 0).trans rfl
                    have hcz71_1 : wr.cell? ⟨gb584, 1, none⟩ = some (.int .i64 a1_1) := (blk_cell BK584.out 1).trans rfl
                    have hcz71_2 : wr.cell? ⟨gb584, 2, none⟩ = some (.string a1_2) := (blk_cell BK584.out 2).trans rfl
                    have hcz71_3 : wr.cell? ⟨gb584, 3, none⟩ = some (.bool a1_3) := (blk_cell BK584.out 3).trans rfl
                    have hfz71_0 := blk_frozen BK584.out 0
                    have hfz71_1 := blk_frozen BK584.out 1
                    have hfz71_2 := blk_frozen BK584.out 2
                    have hfz71_3 := blk_frozen BK584.out 3
                    go_wp2_with (first | ((with_reducible refine gate_builtin (b := .append) (xs := #[.tmp 79, .tmp 81]) rfl ?_); at_builtin; refine Kd.R_append k47 (w0 := w) w.heap.size rfl (.tmp 79) (.tmp 81) 25 47 (.agg #[(.string ⟨#[]⟩), (.int .i64 0), (.string ⟨#[]⟩), (.bool false)]) 48 rfl Tryd.underlying25 info47 rfl (by decide) (by omega) u7 x7_2 (⟨a1_0, a1_1, a1_2, a1_3⟩ : S47) [.string a1_0, .int .i64 a1_1, .string a1_2, .bool a1_3] (fun k_ => k_ ≠ gb584) (fun _ => False) rfl rfl ?aP (fun _ hk => hk.elim) ?aF ?aO ?aB ?aS ?aL ?_; (case aP => exact k47_mkM _ _ _ (⟨a1_0, a1_1, a1_2, a1_3⟩ : S47)); (case aB => exact (by repeat (first | (with_reducible first | exact HB.out | apply below_alloc | apply pw_below_drewN | apply below_drew1 | refine below_set ?_ GE584.out) | exact HB.out))); (case aF => exact (fun k_ hk => Kd.freshB (g := gb584) (o := .cells #[.string a1_0, .int .i64 a1_1, .string a1_2, .bool a1_3] 47 (0, 0)) (by (with_reducible repeat (first | refine blk_drewN ?_ _ | refine blk_drew ?_ | refine blk_alloc ?_ _)); exact BK584.out) k_ hk)); (case aO => exact (by (with_reducible repeat (first | apply Kd.R_alloc | apply Kd.R_drewN | apply Kd.R_drew)); exact HO_7.out)); (case aS => exact (below_size (by repeat (first | (with_reducible first | exact HB.out | apply below_alloc | apply pw_below_drewN | apply below_drew1 | refine below_set ?_ GE584.out) | exact HB.out)))); (case aL => have := LMc68.out; omega); intro v614 w72 ho hb hg hat; rw [← Ny613.out] at ho; have n0_ := Aside0.mk (blk_grown (g := gb584) (o := .cells #[.string a1_0, .int .i64 a1_1, .string a1_2, .bool a1_3] 47 (0, 0)) (by (with_reducible repeat (first | refine blk_drewN ?_ _ | refine blk_drew ?_ | refine blk_alloc ?_ _)); exact BK584.out) hg (Kd.R_away HO_7.out (fun _ hk => hk))); have n1_ := Aside0.mk (hb); have n2_ := Aside0.mk (ho); clear BK584; clear HB; clear HO_7; have BK584 := n0_; have HB := n1_; have HO615 := n2_; clear n0_ n1_ n2_; clear ho hb hg hat; obtain ⟨Ao73, co73, eo73⟩ := Kd.R_slice HO615.out; subst eo73) | (go_at_call 57; (with_reducible refine (spec_l10Copy.calls _ _ l0 t616 _ ?side1 ?side2 A70.out).mono ?_); (case side1 => repeat (first | exact (Kd.C_below HR0.out HB.out) | (with_reducible refine Kd.C_alloc ?_ _) | (with_reducible refine Kd.C_drewN ?_ _) | (with_reducible refine Kd.C_drew ?_))); (case side2 => exact HC0.out); rintro e w74 ⟨v617, rfl, ho0, hb⟩; have n0_ := Aside0.mk (Kd.R_elder' (by (with_reducible repeat (first | apply Kd.R_alloc | apply Kd.R_drewN | apply Kd.R_drew)); exact HO615.out) (Kd.R_base ho0) hb); have n1_ := Aside0.mk (Kd.R_lower (Kd.R_newB (Kd.R_new' ho0 (Kd.R_lt (by (with_reducible repeat (first | apply Kd.R_alloc | apply Kd.R_drewN | apply Kd.R_drew)); exact HO615.out))) (g := gb584) (o := .cells #[.string a1_0, .int .i64 a1_1, .string a1_2, .bool a1_3] 47 (0, 0)) (by (with_reducible repeat (first | refine blk_drewN ?_ _ | refine blk_drew ?_ | refine blk_alloc ?_ _)); exact BK584.out)) (below_size (by repeat (first | (with_reducible first | exact HB.out | apply below_alloc | apply pw_below_drewN | apply below_drew1 | refine below_set ?_ GE584.out) | exact HB.out)))); have n2_ := Aside0.mk (blk_below (g := gb584) (o := .cells #[.string a1_0, .int .i64 a1_1, .string a1_2, .bool a1_3] 47 (0, 0)) (by (with_reducible repeat (first | refine blk_drewN ?_ _ | refine blk_drew ?_ | refine blk_alloc ?_ _)); exact BK584.out) hb); have n3_ := Aside0.mk (below_step (by repeat (first | (with_reducible first | exact HB.out | apply below_alloc | apply pw_below_drewN | apply below_drew1 | refine below_set ?_ GE584.out) | exact HB.out)) hb); clear HO615; clear BK584; clear HB; have HO615 := n0_; have HO618 := n1_; have BK584 := n2_; have HB := n3_; clear n0_ n1_ n2_ n3_; (try clear hb); (try clear hb2); (try clear hk); (try clear hi); (try clear ho0)))
                    repeat (go_quiet (first | ((with_reducible refine gate_builtin (b := .append) (xs := #[.tmp 79, .tmp 81]) rfl ?_); at_builtin; refine Kd.R_append k47 (w0 := w) w.heap.size rfl (.tmp 79) (.tmp 81) 25 47 (.agg #[(.string ⟨#[]⟩), (.int .i64 0), (.string ⟨#[]⟩), (.bool false)]) 48 rfl Tryd.underlying25 info47 rfl (by decide) (by omega) u7 x7_2 (⟨a1_0, a1_1, a1_2, a1_3⟩ : S47) [.string a1_0, .int .i64 a1_1, .string a1_2, .bool a1_3] (fun k_ => k_ ≠ gb584) (fun _ => False) rfl rfl ?aP (fun _ hk => hk.elim) ?aF ?aO ?aB ?aS ?aL ?_; (case aP => exact k47_mkM _ _ _ (⟨a1_0, a1_1, a1_2, a1_3⟩ : S47)); (case aB => exact (by repeat (first | (with_reducible first | exact HB.out | apply below_alloc | apply pw_below_drewN | apply below_drew1 | refine below_set ?_ GE584.out) | exact HB.out))); (case aF => exact (fun k_ hk => Kd.freshB (g := gb584) (o := .cells #[.string a1_0, .int .i64 a1_1, .string a1_2, .bool a1_3] 47 (0, 0)) (by (with_reducible repeat (first | refine blk_drewN ?_ _ | refine blk_drew ?_ | refine blk_alloc ?_ _)); exact BK584.out) k_ hk)); (case aO => exact (by (with_reducible repeat (first | apply Kd.R_alloc | apply Kd.R_drewN | apply Kd.R_drew)); exact HO_7.out)); (case aS => exact (below_size (by repeat (first | (with_reducible first | exact HB.out | apply below_alloc | apply pw_below_drewN | apply below_drew1 | refine below_set ?_ GE584.out) | exact HB.out)))); (case aL => have := LMc68.out; omega); intro v614 w72 ho hb hg hat; rw [← Ny613.out] at ho; have n0_ := Aside0.mk (blk_grown (g := gb584) (o := .cells #[.string a1_0, .int .i64 a1_1, .string a1_2, .bool a1_3] 47 (0, 0)) (by (with_reducible repeat (first | refine blk_drewN ?_ _ | refine blk_drew ?_ | refine blk_alloc ?_ _)); exact BK584.out) hg (Kd.R_away HO_7.out (fun _ hk => hk))); have n1_ := Aside0.mk (hb); have n2_ := Aside0.mk (ho); clear BK584; clear HB; clear HO_7; have BK584 := n0_; have HB := n1_; have HO615 := n2_; clear n0_ n1_ n2_; clear ho hb hg hat; obtain ⟨Ao73, co73, eo73⟩ := Kd.R_slice HO615.out; subst eo73) | (go_at_call 57; (with_reducible refine (spec_l10Copy.calls _ _ l0 t616 _ ?side1 ?side2 A70.out).mono ?_); (case side1 => repeat (first | exact (Kd.C_below HR0.out HB.out) | (with_reducible refine Kd.C_alloc ?_ _) | (with_reducible refine Kd.C_drewN ?_ _) | (with_reducible refine Kd.C_drew ?_))); (case side2 => exact HC0.out); rintro e w74 ⟨v617, rfl, ho0, hb⟩; have n0_ := Aside0.mk (Kd.R_elder' (by (with_reducible repeat (first | apply Kd.R_alloc | apply Kd.R_drewN | apply Kd.R_drew)); exact HO615.out) (Kd.R_base ho0) hb); have n1_ := Aside0.mk (Kd.R_lower (Kd.R_newB (Kd.R_new' ho0 (Kd.R_lt (by (with_reducible repeat (first | apply Kd.R_alloc | apply Kd.R_drewN | apply Kd.R_drew)); exact HO615.out))) (g := gb584) (o := .cells #[.string a1_0, .int .i64 a1_1, .string a1_2, .bool a1_3] 47 (0, 0)) (by (with_reducible repeat (first | refine blk_drewN ?_ _ | refine blk_drew ?_ | refine blk_alloc ?_ _)); exact BK584.out)) (below_size (by repeat (first | (with_reducible first | exact HB.out | apply below_alloc | apply pw_below_drewN | apply below_drew1 | refine below_set ?_ GE584.out) | exact HB.out)))); have n2_ := Aside0.mk (blk_below (g := gb584) (o := .cells #[.string a1_0, .int .i64 a1_1, .string a1_2, .bool a1_3] 47 (0, 0)) (by (with_reducible repeat (first | refine blk_drewN ?_ _ | refine blk_drew ?_ | refine blk_alloc ?_ _)); exact BK584.out) hb); have n3_ := Aside0.mk (below_step (by repeat (first | (with_reducible first | exact HB.out | apply below_alloc | apply pw_below_drewN | apply below_drew1 | refine below_set ?_ GE584.out) | exact HB.out)) hb); clear HO615; clear BK584; clear HB; have HO615 := n0_; have HO618 := n1_; have BK584 := n2_; have HB := n3_; clear n0_ n1_ n2_ n3_; (try clear hb); (try clear hb2); (try clear hk); (try clear hi); (try clear ho0))); try go_wp2_with (first | ((with_reducible refine gate_builtin (b := .append) (xs := #[.tmp 79, .tmp 81]) rfl ?_); at_builtin; refine Kd.R_append k47 (w0 := w) w.heap.size rfl (.tmp 79) (.tmp 81) 25 47 (.agg #[(.string ⟨#[]⟩), (.int .i64 0), (.string ⟨#[]⟩), (.bool false)]) 48 rfl Tryd.underlying25 info47 rfl (by decide) (by omega) u7 x7_2 (⟨a1_0, a1_1, a1_2, a1_3⟩ : S47) [.string a1_0, .int .i64 a1_1, .string a1_2, .bool a1_3] (fun k_ => k_ ≠ gb584) (fun _ => False) rfl rfl ?aP (fun _ hk => hk.elim) ?aF ?aO ?aB ?aS ?aL ?_; (case aP => exact k47_mkM _ _ _ (⟨a1_0, a1_1, a1_2, a1_3⟩ : S47)); (case aB => exact (by repeat (first | (with_reducible first | exact HB.out | apply below_alloc | apply pw_below_drewN | apply below_drew1 | refine below_set ?_ GE584.out) | exact HB.out))); (case aF => exact (fun k_ hk => Kd.freshB (g := gb584) (o := .cells #[.string a1_0, .int .i64 a1_1, .string a1_2, .bool a1_3] 47 (0, 0)) (by (with_reducible repeat (first | refine blk_drewN ?_ _ | refine blk_drew ?_ | refine blk_alloc ?_ _)); exact BK584.out) k_ hk)); (case aO => exact (by (with_reducible repeat (first | apply Kd.R_alloc | apply Kd.R_drewN | apply Kd.R_drew)); exact HO_7.out)); (case aS => exact (below_size (by repeat (first | (with_reducible first | exact HB.out | apply below_alloc | apply pw_below_drewN | apply below_drew1 | refine below_set ?_ GE584.out) | exact HB.out)))); (case aL => have := LMc68.out; omega); intro v614 w72 ho hb hg hat; rw [← Ny613.out] at ho; have n0_ := Aside0.mk (blk_grown (g := gb584) (o := .cells #[.string a1_0, .int .i64 a1_1, .string a1_2, .bool a1_3] 47 (0, 0)) (by (with_reducible repeat (first | refine blk_drewN ?_ _ | refine blk_drew ?_ | refine blk_alloc ?_ _)); exact BK584.out) hg (Kd.R_away HO_7.out (fun _ hk => hk))); have n1_ := Aside0.mk (hb); have n2_ := Aside0.mk (ho); clear BK584; clear HB; clear HO_7; have BK584 := n0_; have HB := n1_; have HO615 := n2_; clear n0_ n1_ n2_; clear ho hb hg hat; obtain ⟨Ao73, co73, eo73⟩ := Kd.R_slice HO615.out; subst eo73) | (go_at_call 57; (with_reducible refine (spec_l10Copy.calls _ _ l0 t616 _ ?side1 ?side2 A70.out).mono ?_); (case side1 => repeat (first | exact (Kd.C_below HR0.out HB.out) | (with_reducible refine Kd.C_alloc ?_ _) | (with_reducible refine Kd.C_drewN ?_ _) | (with_reducible refine Kd.C_drew ?_))); (case side2 => exact HC0.out); rintro e w74 ⟨v617, rfl, ho0, hb⟩; have n0_ := Aside0.mk (Kd.R_elder' (by (with_reducible repeat (first | apply Kd.R_alloc | apply Kd.R_drewN | apply Kd.R_drew)); exact HO615.out) (Kd.R_base ho0) hb); have n1_ := Aside0.mk (Kd.R_lower (Kd.R_newB (Kd.R_new' ho0 (Kd.R_lt (by (with_reducible repeat (first | apply Kd.R_alloc | apply Kd.R_drewN | apply Kd.R_drew)); exact HO615.out))) (g := gb584) (o := .cells #[.string a1_0, .int .i64 a1_1, .string a1_2, .bool a1_3] 47 (0, 0)) (by (with_reducible repeat (first | refine blk_drewN ?_ _ | refine blk_drew ?_ | refine blk_alloc ?_ _)); exact BK584.out)) (below_size (by repeat (first | (with_reducible first | exact HB.out | apply below_alloc | apply pw_below_drewN | apply below_drew1 | refine below_set ?_ GE584.out) | exact HB.out)))); have n2_ := Aside0.mk (blk_below (g := gb584) (o := .cells #[.string a1_0, .int .i64 a1_1, .string a1_2, .bool a1_3] 47 (0, 0)) (by (with_reducible repeat (first | refine blk_drewN ?_ _ | refine blk_drew ?_ | refine blk_alloc ?_ _)); exact BK584.out) hb); have n3_ := Aside0.mk (below_step (by repeat (first | (with_reducible first | exact HB.out | apply below_alloc | apply pw_below_drewN | apply below_drew1 | refine below_set ?_ GE584.out) | exact HB.out)) hb); clear HO615; clear BK584; clear HB; have HO615 := n0_; have HO618 := n1_; have BK584 := n2_; have HB := n3_; clear n0_ n1_ n2_ n3_; (try clear hb); (try clear hb2); (try clear hk); (try clear hi); (try clear ho0))))
                    go_ret2
                    exact ⟨_, by first | rfl | (simp [errW_none, errW_some] <;> rfl) | (simp [*, errW_none, errW_some] <;> rfl), by (with_reducible repeat (first | apply Kd.R_alloc | apply Kd.R_drewN | apply Kd.R_drew)); exact Kd.R_mono HO618.out (fun _ hk => trivial), by repeat (first | (with_reducible first | exact HB.out | apply below_alloc | apply pw_below_drewN | apply below_drew1 | refine below_set ?_ GE584.out) | exact HB.out)⟩
                  · rw [if_neg c69] at H
                    have c69b0 : decide (500 < (y613.length : Int)) = false := decide_eq_false c69
                    have c69b1 : decide (500 < y613.length) = false := decide_eq_false (by omega)
                    clear c69
                    simp only [Option.some.injEq, Prod.mk.injEq] at H
                    obtain ⟨rfl, rfl⟩ := H
                    have hcz75_0 : wr.cell? ⟨gb584, 0, none⟩ = some (.string a1_0) := (blk_cell BK584.out 0).trans rfl
                    have hcz75_1 : wr.cell? ⟨gb584, 1, none⟩ = some (.int .i64 a1_1) := (blk_cell BK584.out 1).trans rfl
                    have hcz75_2 : wr.cell? ⟨gb584, 2, none⟩ = some (.string a1_2) := (blk_cell BK584.out 2).trans rfl
                    have hcz75_3 : wr.cell? ⟨gb584, 3, none⟩ = some (.bool a1_3) := (blk_cell BK584.out 3).trans rfl
                    have hfz75_0 := blk_frozen BK584.out 0
                    have hfz75_1 := blk_frozen BK584.out 1
                    have hfz75_2 := blk_frozen BK584.out 2
                    have hfz75_3 := blk_frozen BK584.out 3
                    go_wp2_with (first | ((with_reducible refine gate_builtin (b := .append) (xs := #[.tmp 79, .tmp 81]) rfl ?_); at_builtin; refine Kd.R_append k47 (w0 := w) w.heap.size rfl (.tmp 79) (.tmp 81) 25 47 (.agg #[(.string ⟨#[]⟩), (.int .i64 0), (.string ⟨#[]⟩), (.bool false)]) 48 rfl Tryd.underlying25 info47 rfl (by decide) (by omega) u7 x7_2 (⟨a1_0, a1_1, a1_2, a1_3⟩ : S47) [.string a1_0, .int .i64 a1_1, .string a1_2, .bool a1_3] (fun k_ => k_ ≠ gb584) (fun _ => False) rfl rfl ?aP (fun _ hk => hk.elim) ?aF ?aO ?aB ?aS ?aL ?_; (case aP => exact k47_mkM _ _ _ (⟨a1_0, a1_1, a1_2, a1_3⟩ : S47)); (case aB => exact (by repeat (first | (with_reducible first | exact HB.out | apply below_alloc | apply pw_below_drewN | apply below_drew1 | refine below_set ?_ GE584.out) | exact HB.out))); (case aF => exact (fun k_ hk => Kd.freshB (g := gb584) (o := .cells #[.string a1_0, .int .i64 a1_1, .string a1_2, .bool a1_3] 47 (0, 0)) (by (with_reducible repeat (first | refine blk_drewN ?_ _ | refine blk_drew ?_ | refine blk_alloc ?_ _)); exact BK584.out) k_ hk)); (case aO => exact (by (with_reducible repeat (first | apply Kd.R_alloc | apply Kd.R_drewN | apply Kd.R_drew)); exact HO_7.out)); (case aS => exact (below_size (by repeat (first | (with_reducible first | exact HB.out | apply below_alloc | apply pw_below_drewN | apply below_drew1 | refine below_set ?_ GE584.out) | exact HB.out)))); (case aL => have := LMc68.out; omega); intro v614 w76 ho hb hg hat; rw [← Ny613.out] at ho; have n0_ := Aside0.mk (blk_grown (g := gb584) (o := .cells #[.string a1_0, .int .i64 a1_1, .string a1_2, .bool a1_3] 47 (0, 0)) (by (with_reducible repeat (first | refine blk_drewN ?_ _ | refine blk_drew ?_ | refine blk_alloc ?_ _)); exact BK584.out) hg (Kd.R_away HO_7.out (fun _ hk => hk))); have n1_ := Aside0.mk (hb); have n2_ := Aside0.mk (ho); clear BK584; clear HB; clear HO_7; have BK584 := n0_; have HB := n1_; have HO615 := n2_; clear n0_ n1_ n2_; clear ho hb hg hat; obtain ⟨Ao77, co77, eo77⟩ := Kd.R_slice HO615.out; subst eo77))
                    repeat (go_quiet (first | ((with_reducible refine gate_builtin (b := .append) (xs := #[.tmp 79, .tmp 81]) rfl ?_); at_builtin; refine Kd.R_append k47 (w0 := w) w.heap.size rfl (.tmp 79) (.tmp 81) 25 47 (.agg #[(.string ⟨#[]⟩), (.int .i64 0), (.string ⟨#[]⟩), (.bool false)]) 48 rfl Tryd.underlying25 info47 rfl (by decide) (by omega) u7 x7_2 (⟨a1_0, a1_1, a1_2, a1_3⟩ : S47) [.string a1_0, .int .i64 a1_1, .string a1_2, .bool a1_3] (fun k_ => k_ ≠ gb584) (fun _ => False) rfl rfl ?aP (fun _ hk => hk.elim) ?aF ?aO ?aB ?aS ?aL ?_; (case aP => exact k47_mkM _ _ _ (⟨a1_0, a1_1, a1_2, a1_3⟩ : S47)); (case aB => exact (by repeat (first | (with_reducible first | exact HB.out | apply below_alloc | apply pw_below_drewN | apply below_drew1 | refine below_set ?_ GE584.out) | exact HB.out))); (case aF => exact (fun k_ hk => Kd.freshB (g := gb584) (o := .cells #[.string a1_0, .int .i64 a1_1, .string a1_2, .bool a1_3] 47 (0, 0)) (by (with_reducible repeat (first | refine blk_drewN ?_ _ | refine blk_drew ?_ | refine blk_alloc ?_ _)); exact BK584.out) k_ hk)); (case aO => exact (by (with_reducible repeat (first | apply Kd.R_alloc | apply Kd.R_drewN | apply Kd.R_drew)); exact HO_7.out)); (case aS => exact (below_size (by repeat (first | (with_reducible first | exact HB.out | apply below_alloc | apply pw_below_drewN | apply below_drew1 | refine below_set ?_ GE584.out) | exact HB.out)))); (case aL => have := LMc68.out; omega); intro v614 w76 ho hb hg hat; rw [← Ny613.out] at ho; have n0_ := Aside0.mk (blk_grown (g := gb584) (o := .cells #[.string a1_0, .int .i64 a1_1, .string a1_2, .bool a1_3] 47 (0, 0)) (by (with_reducible repeat (first | refine blk_drewN ?_ _ | refine blk_drew ?_ | refine blk_alloc ?_ _)); exact BK584.out) hg (Kd.R_away HO_7.out (fun _ hk => hk))); have n1_ := Aside0.mk (hb); have n2_ := Aside0.mk (ho); clear BK584; clear HB; clear HO_7; have BK584 := n0_; have HB := n1_; have HO615 := n2_; clear n0_ n1_ n2_; clear ho hb hg hat; obtain ⟨Ao77, co77, eo77⟩ := Kd.R_slice HO615.out; subst eo77)); try go_wp2_with (first | ((with_reducible refine gate_builtin (b := .append) (xs := #[.tmp 79, .tmp 81]) rfl ?_); at_builtin; refine Kd.R_append k47 (w0 := w) w.heap.size rfl (.tmp 79) (.tmp 81) 25 47 (.agg #[(.string ⟨#[]⟩), (.int .i64 0), (.string ⟨#[]⟩), (.bool false)]) 48 rfl Tryd.underlying25 info47 rfl (by decide) (by omega) u7 x7_2 (⟨a1_0, a1_1, a1_2, a1_3⟩ : S47) [.string a1_0, .int .i64 a1_1, .string a1_2, .bool a1_3] (fun k_ => k_ ≠ gb584) (fun _ => False) rfl rfl ?aP (fun _ hk => hk.elim) ?aF ?aO ?aB ?aS ?aL ?_; (case aP => exact k47_mkM _ _ _ (⟨a1_0, a1_1, a1_2, a1_3⟩ : S47)); (case aB => exact (by repeat (first | (with_reducible first | exact HB.out | apply below_alloc | apply pw_below_drewN | apply below_drew1 | refine below_set ?_ GE584.out) | exact HB.out))); (case aF => exact (fun k_ hk => Kd.freshB (g := gb584) (o := .cells #[.string a1_0, .int .i64 a1_1, .string a1_2, .bool a1_3] 47 (0, 0)) (by (with_reducible repeat (first | refine blk_drewN ?_ _ | refine blk_drew ?_ | refine blk_alloc ?_ _)); exact BK584.out) k_ hk)); (case aO => exact (by (with_reducible repeat (first | apply Kd.R_alloc | apply Kd.R_drewN | apply Kd.R_drew)); exact HO_7.out)); (case aS => exact (below_size (by repeat (first | (with_reducible first | exact HB.out | apply below_alloc | apply pw_below_drewN | apply below_drew1 | refine below_set ?_ GE584.out) | exact HB.out)))); (case aL => have := LMc68.out; omega); intro v614 w76 ho hb hg hat; rw [← Ny613.out] at ho; have n0_ := Aside0.mk (blk_grown (g := gb584) (o := .cells #[.string a1_0, .int .i64 a1_1, .string a1_2, .bool a1_3] 47 (0, 0)) (by (with_reducible repeat (first | refine blk_drewN ?_ _ | refine blk_drew ?_ | refine blk_alloc ?_ _)); exact BK584.out) hg (Kd.R_away HO_7.out (fun _ hk => hk))); have n1_ := Aside0.mk (hb); have n2_ := Aside0.mk (ho); clear BK584; clear HB; clear HO_7; have BK584 := n0_; have HB := n1_; have HO615 := n2_; clear n0_ n1_ n2_; clear ho hb hg hat; obtain ⟨Ao77, co77, eo77⟩ := Kd.R_slice HO615.out; subst eo77)))
                    go_ret2
                    exact ⟨_, by first | rfl | (simp [errW_none, errW_some] <;> rfl) | (simp [*, errW_none, errW_some] <;> rfl), by (with_reducible repeat (first | apply Kd.R_alloc | apply Kd.R_drewN | apply Kd.R_drew)); exact Kd.R_mono HO615.out (fun _ hk => trivial), by repeat (first | (with_reducible first | exact HB.out | apply below_alloc | apply pw_below_drewN | apply below_drew1 | refine below_set ?_ GE584.out) | exact HB.out)⟩
                · rw [if_neg c68] at H
                  exact absurd H (by simp)
end Go.Proofs.YtgghefjkkidaoaaDoor.P
end

section
namespace Go.Proofs.YtgghefjkkidaoaaDoor.P
open Go.RowKit Go.Proofs.YtgghefjkkidaoaaDoorW.PrintWords Go.Proofs.YtgghefjkkidaoaaDoorW.PrintLast Go.Proofs.YtgghefjkkidaoaaDoorW.PrintMore Go.Proofs.YtgghefjkkidaoaaDoorM
attribute [local go_sem] max2_int min2_int max_two min_two max_three min_three max_four min_four   -- for this text's walks alone
set_option linter.unusedVariables false
set_option linter.unusedSimpArgs false
def spec_PutEntry.f (k : Nat) (l0 : List (S47)) (a1_0 : ByteArray) (a1_1 : Int) (a1_2 : ByteArray) (a1_3 : Bool) : Option ((List (S47)) × Bool) := (spec_TreeOk.f k l0).bind fun t620 => (if t620 = true then ((spec_l10Put.f k l0 a1_0 a1_1 a1_2 a1_3).bind fun bt621 => (some (bt621.1, bt621.2))) else (some ((([] : List (S47))), false)))
set_option maxHeartbeats 8000000 in
set_option maxRecDepth 100000 in
theorem spec_PutEntry.calls (k : Nat) (A0 : Option Addr) (c0 : Nat) (l0 : List (S47)) (a1_0 : ByteArray) (a1_1 : Int) (a1_2 : ByteArray) (a1_3 : Bool) (r1 : List (S47)) (r2 : Bool) (w : World) (hr0 : Kd.C k47 w A0 l0.length l0) (hc0 : l0.length ≤ c0) (h : spec_PutEntry.f k l0 a1_0 a1_1 a1_2 a1_3 = some (r1, r2)) :
    Calls Tryd.prog 33 #[.slice A0 l0.length c0, .agg #[.string a1_0, .int .i64 a1_1, .string a1_2, .bool a1_3]] w fun e w' => ∃ v0_ : Value, e = .returned (.tuple #[v0_, .bool r2]) ∧ Kd.R k47 47 w' w.heap.size (fun _ => True) v0_ r1 ∧ Below w.heap.size w w' := by
  have hu47 := Tryd.underlying47
  have HR0 := Aside0.mk hr0
  have HC0 := Aside0.mk hc0
  clear hr0 hc0
  have HB := Aside0.mk (Below.refl w.heap.size w)
  have H : ((spec_TreeOk.f k l0).bind fun t620 => (if t620 = true then ((spec_l10Put.f k l0 a1_0 a1_1 a1_2 a1_3).bind fun bt621 => (some (bt621.1, bt621.2))) else (some ((([] : List (S47))), false)))) = some (r1, r2) := h
  clear h
  replace H := Option.bind_eq_some_iff.mp H
  obtain ⟨t620, A30, H⟩ := H
  replace H : (if t620 = true then ((spec_l10Put.f k l0 a1_0 a1_1 a1_2 a1_3).bind fun bt621 => (some (bt621.1, bt621.2))) else (some ((([] : List (S47))), false))) = some (r1, r2) := H
  have A3 := Aside0.mk A30
  clear A30
  by_cases c4 : t620 = true
  · subst c4
    have H1 : ((spec_l10Put.f k l0 a1_0 a1_1 a1_2 a1_3).bind fun bt621 => (some (bt621.1, bt621.2))) = some (r1, r2) := by rw [if_pos rfl] at H; exact H
    clear H
    have H := H1
    clear H1
    replace H := Option.bind_eq_some_iff.mp H
    obtain ⟨⟨t621, t624⟩, A50, H⟩ := H
    replace H : (some (t621, t624)) = some (r1, r2) := H
    have A5 := Aside0.mk A50
    clear A50
    simp only [Option.some.injEq, Prod.mk.injEq] at H
    obtain ⟨rfl, rfl⟩ := H
    go_enter Tryd.func33, Tryd.ntmps33
    go_wp2_with (first | ((with_reducible refine gate_dst (N := 3) rfl ?_); refine box_event ?hg (N := 3) ?hd (cs := #[.string a1_0, .int .i64 a1_1, .string a1_2, .bool a1_3]) (t := 47) ?hr ?_; (case hd => rfl); (case hg => rfl); (case hr => first | (go_simp; done) | (go_simp; rfl)); intro gb619 hg w6 hbox hb; have n0_ := Aside0.mk (below_step (by repeat (first | (with_reducible first | exact HB.out | apply below_alloc | apply pw_below_drewN | apply below_drew1) | exact HB.out)) hb); have n1_ := Aside0.mk (hbox); have n2_ := Aside0.mk ((by rw [hg]; exact (below_size (by repeat (first | (with_reducible first | exact HB.out | apply below_alloc | apply pw_below_drewN | apply below_drew1) | exact HB.out))) : w.heap.size ≤ gb619)); have n3_ := Aside0.mk ((by rw [hg]; exact (below_size (by repeat (first | (with_reducible first | exact HB.out | apply below_alloc | apply pw_below_drewN | apply below_drew1) | exact HB.out))) : w.heap.size ≤ gb619)); clear HB; have HB := n0_; have BK619 := n1_; have GW619 := n2_; have GE619 := n3_; clear n0_ n1_ n2_ n3_; clear hb hbox hg) | ((with_reducible refine gate_callee (f := 38) rfl ?_); refine goesL_ (some 7) rfl rfl Tryd.func38 (by kernel_rfl) rfl #[.slice A0 l0.length c0] rfl (by (try simp only [List.map_toArray, List.map_cons, List.map_nil]); first | done | rfl | (simp only [List.length_drop, List.length_take]; rfl)) ?_; (with_reducible refine (spec_TreeOk.calls k _ _ l0 true _ ?side1 ?side2 A3.out).mono ?_); (case side1 => repeat (first | exact (Kd.C_below HR0.out HB.out) | (with_reducible refine Kd.C_alloc ?_ _) | (with_reducible refine Kd.C_drewN ?_ _) | (with_reducible refine Kd.C_drew ?_))); (case side2 => exact HC0.out); rintro e w7 ⟨rfl, hb⟩; refine ⟨_, rfl, ?_⟩; have n0_ := Aside0.mk (blk_below (g := gb619) (o := .cells #[.string a1_0, .int .i64 a1_1, .string a1_2, .bool a1_3] 47 (0, 0)) (by (with_reducible repeat (first | refine blk_drewN ?_ _ | refine blk_drew ?_ | refine blk_alloc ?_ _)); exact BK619.out) hb); have n1_ := Aside0.mk (below_step (by repeat (first | (with_reducible first | exact HB.out | apply below_alloc | apply pw_below_drewN | apply below_drew1 | refine below_set ?_ GE619.out) | exact HB.out)) hb); clear BK619; clear HB; have BK619 := n0_; have HB := n1_; clear n0_ n1_; (try clear hb); (try clear hb2); (try clear hk); (try clear hi); have hcz8_0 : w7.cell? ⟨gb619, 0, none⟩ = some (.string a1_0) := (blk_cell BK619.out 0).trans rfl; have hcz8_1 : w7.cell? ⟨gb619, 1, none⟩ = some (.int .i64 a1_1) := (blk_cell BK619.out 1).trans rfl; have hcz8_2 : w7.cell? ⟨gb619, 2, none⟩ = some (.string a1_2) := (blk_cell BK619.out 2).trans rfl; have hcz8_3 : w7.cell? ⟨gb619, 3, none⟩ = some (.bool a1_3) := (blk_cell BK619.out 3).trans rfl; have hfz8_0 := blk_frozen BK619.out 0; have hfz8_1 := blk_frozen BK619.out 1; have hfz8_2 := blk_frozen BK619.out 2; have hfz8_3 := blk_frozen BK619.out 3) | ((with_reducible refine gate_callee (f := 72) rfl ?_); refine goesL_ (some 12) rfl rfl Tryd.func72 (by kernel_rfl) rfl #[.slice A0 l0.length c0, .agg #[.string a1_0, .int .i64 a1_1, .string a1_2, .bool a1_3]] rfl (by (try simp only [List.map_toArray, List.map_cons, List.map_nil]); first | done | rfl | (simp only [List.length_drop, List.length_take]; rfl)) ?_; (with_reducible refine (spec_l10Put.calls k _ _ l0 a1_0 a1_1 a1_2 a1_3 t621 t624 _ ?side1 ?side2 A5.out).mono ?_); (case side1 => repeat (first | exact (Kd.C_below HR0.out HB.out) | (with_reducible refine Kd.C_alloc ?_ _) | (with_reducible refine Kd.C_drewN ?_ _) | (with_reducible refine Kd.C_drew ?_))); (case side2 => exact HC0.out); rintro e w9 ⟨v622, rfl, ho0, hb⟩; refine ⟨_, rfl, ?_⟩; have n0_ := Aside0.mk (Kd.R_lower (Kd.R_newB ho0 (g := gb619) (o := .cells #[.string a1_0, .int .i64 a1_1, .string a1_2, .bool a1_3] 47 (0, 0)) (by (with_reducible repeat (first | refine blk_drewN ?_ _ | refine blk_drew ?_ | refine blk_alloc ?_ _)); exact BK619.out)) (below_size (by repeat (first | (with_reducible first | exact HB.out | apply below_alloc | apply pw_below_drewN | apply below_drew1 | refine below_set ?_ GE619.out) | exact HB.out)))); have n1_ := Aside0.mk (blk_below (g := gb619) (o := .cells #[.string a1_0, .int .i64 a1_1, .string a1_2, .bool a1_3] 47 (0, 0)) (by (with_reducible repeat (first | refine blk_drewN ?_ _ | refine blk_drew ?_ | refine blk_alloc ?_ _)); exact BK619.out) hb); have n2_ := Aside0.mk (below_step (by repeat (first | (with_reducible first | exact HB.out | apply below_alloc | apply pw_below_drewN | apply below_drew1 | refine below_set ?_ GE619.out) | exact HB.out)) hb); clear BK619; clear HB; have HO623 := n0_; have BK619 := n1_; have HB := n2_; clear n0_ n1_ n2_; (try clear hb); (try clear hb2); (try clear hk); (try clear hi); (try clear ho0)))
    go_ret2
    exact ⟨_, by first | rfl | (simp [errW_none, errW_some] <;> rfl) | (simp [*, errW_none, errW_some] <;> rfl), by (with_reducible repeat (first | apply Kd.R_alloc | apply Kd.R_drewN | apply Kd.R_drew)); exact Kd.R_mono HO623.out (fun _ hk => trivial), by repeat (first | (with_reducible first | exact HB.out | apply below_alloc | apply pw_below_drewN | apply below_drew1 | refine below_set ?_ GE619.out) | exact HB.out)⟩
  · replace c4 := Bool.eq_false_iff.mpr c4
    subst c4
    have H1 : (some ((([] : List (S47))), false)) = some (r1, r2) := by rw [if_neg (show ¬ (false = true) by decide)] at H; exact H
    clear H
    have H := H1
    clear H1
    obtain ⟨y625, hy625⟩ : ∃ y_ : List (S47), y_ = (([] : List (S47))) := ⟨_, rfl⟩
    replace H : (some (y625, false)) = some (r1, r2) := by first | (rw [hy625]; with_reducible exact H) | (have H2_ := (Option.bind_some _ _).symm.trans H; rw [hy625]; with_reducible exact H2_) | (have H2_ := (Option.bind_some _ _).symm.trans H; with_reducible exact H2_) | with_reducible exact H | (rw [hy625]; exact H) | exact H
    have Ny625 := Aside0.mk hy625
    clear hy625
    simp only [Option.some.injEq, Prod.mk.injEq] at H
    obtain ⟨rfl, rfl⟩ := H
    go_enter Tryd.func33, Tryd.ntmps33
    go_wp2_with (first | ((with_reducible refine gate_dst (N := 3) rfl ?_); refine box_event ?hg (N := 3) ?hd (cs := #[.string a1_0, .int .i64 a1_1, .string a1_2, .bool a1_3]) (t := 47) ?hr ?_; (case hd => rfl); (case hg => rfl); (case hr => first | (go_simp; done) | (go_simp; rfl)); intro gb619 hg w10 hbox hb; have n0_ := Aside0.mk (below_step (by repeat (first | (with_reducible first | exact HB.out | apply below_alloc | apply pw_below_drewN | apply below_drew1) | exact HB.out)) hb); have n1_ := Aside0.mk (hbox); have n2_ := Aside0.mk ((by rw [hg]; exact (below_size (by repeat (first | (with_reducible first | exact HB.out | apply below_alloc | apply pw_below_drewN | apply below_drew1) | exact HB.out))) : w.heap.size ≤ gb619)); have n3_ := Aside0.mk ((by rw [hg]; exact (below_size (by repeat (first | (with_reducible first | exact HB.out | apply below_alloc | apply pw_below_drewN | apply below_drew1) | exact HB.out))) : w.heap.size ≤ gb619)); clear HB; have HB := n0_; have BK619 := n1_; have GW619 := n2_; have GE619 := n3_; clear n0_ n1_ n2_ n3_; clear hb hbox hg) | ((with_reducible refine gate_callee (f := 38) rfl ?_); refine goesL_ (some 7) rfl rfl Tryd.func38 (by kernel_rfl) rfl #[.slice A0 l0.length c0] rfl (by (try simp only [List.map_toArray, List.map_cons, List.map_nil]); first | done | rfl | (simp only [List.length_drop, List.length_take]; rfl)) ?_; (with_reducible refine (spec_TreeOk.calls k _ _ l0 false _ ?side1 ?side2 A3.out).mono ?_); (case side1 => repeat (first | exact (Kd.C_below HR0.out HB.out) | (with_reducible refine Kd.C_alloc ?_ _) | (with_reducible refine Kd.C_drewN ?_ _) | (with_reducible refine Kd.C_drew ?_))); (case side2 => exact HC0.out); rintro e w11 ⟨rfl, hb⟩; refine ⟨_, rfl, ?_⟩; have n0_ := Aside0.mk (blk_below (g := gb619) (o := .cells #[.string a1_0, .int .i64 a1_1, .string a1_2, .bool a1_3] 47 (0, 0)) (by (with_reducible repeat (first | refine blk_drewN ?_ _ | refine blk_drew ?_ | refine blk_alloc ?_ _)); exact BK619.out) hb); have n1_ := Aside0.mk (below_step (by repeat (first | (with_reducible first | exact HB.out | apply below_alloc | apply pw_below_drewN | apply below_drew1 | refine below_set ?_ GE619.out) | exact HB.out)) hb); clear BK619; clear HB; have BK619 := n0_; have HB := n1_; clear n0_ n1_; (try clear hb); (try clear hb2); (try clear hk); (try clear hi)) | ((with_reducible refine gate_dst (N := 9) rfl ?_); refine Kd.R_lit k47 _ 47 ?hg (N := 9) ?hd (xs := ([] : List (S47))) (inner := []) (ok := fun _ => True) (okp := fun _ => True) ?hr ?hp (fun _ hk => hk) trivial (Below.refl _ _) (Nat.le_refl _) (by simp) ?_; (case hd => rfl); (case hg => rfl); (case hr => first | (go_simp; done) | (go_simp; rfl)); (case hp => exact (Reps.none _ _)); intro v626 w12 ho13 hb hg_ hnew_; clear hg_ hnew_; (first | rw [← Ny625.out] at ho13 | (simp only [Int.reduceToNat] at ho13; rw [← Ny625.out] at ho13)); have n0_ := Aside0.mk (Kd.R_lower (Kd.R_newB ho13 (g := gb619) (o := .cells #[.string a1_0, .int .i64 a1_1, .string a1_2, .bool a1_3] 47 (0, 0)) (by (with_reducible repeat (first | refine blk_drewN ?_ _ | refine blk_drew ?_ | refine blk_alloc ?_ _)); exact BK619.out)) (below_size (by repeat (first | (with_reducible first | exact HB.out | apply below_alloc | apply pw_below_drewN | apply below_drew1 | refine below_set ?_ GE619.out) | exact HB.out)))); have n1_ := Aside0.mk (blk_below (g := gb619) (o := .cells #[.string a1_0, .int .i64 a1_1, .string a1_2, .bool a1_3] 47 (0, 0)) (by (with_reducible repeat (first | refine blk_drewN ?_ _ | refine blk_drew ?_ | refine blk_alloc ?_ _)); exact BK619.out) hb); have n2_ := Aside0.mk (below_step (by repeat (first | (with_reducible first | exact HB.out | apply below_alloc | apply pw_below_drewN | apply below_drew1 | refine below_set ?_ GE619.out) | exact HB.out)) hb); clear BK619; clear HB; have HO627 := n0_; have BK619 := n1_; have HB := n2_; clear n0_ n1_ n2_; clear hb ho13))
    go_ret2
    exact ⟨_, by first | rfl | (simp [errW_none, errW_some] <;> rfl) | (simp [*, errW_none, errW_some] <;> rfl), by (with_reducible repeat (first | apply Kd.R_alloc | apply Kd.R_drewN | apply Kd.R_drew)); exact Kd.R_mono HO627.out (fun _ hk => trivial), by repeat (first | (with_reducible first | exact HB.out | apply below_alloc | apply pw_below_drewN | apply below_drew1 | refine below_set ?_ GE619.out) | exact HB.out)⟩
end Go.Proofs.YtgghefjkkidaoaaDoor.P
end
