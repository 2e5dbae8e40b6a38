/- Texts of Use, put together by program. -/
import Derived.Test.YtikjbfjnbhaljaaGreatDoorMUse2
import Derived.Test.YtikjbfjnbhaljaaGreatDoorMUse3

section
namespace Go.Proofs.YtikjbfjnbhaljaaGreatDoor.P
open Go.RowKit Go.Proofs.YtikjbfjnbhaljaaGreatDoorW.PrintWords Go.Proofs.YtikjbfjnbhaljaaGreatDoorW.PrintLast Go.Proofs.YtikjbfjnbhaljaaGreatDoorW.PrintMore Go.Proofs.YtikjbfjnbhaljaaGreatDoorM
attribute [local go_sem] max2_int min2_int max_two min_two max_three min_three max_four min_four
set_option linter.unusedVariables false
set_option linter.unusedSimpArgs false
set_option maxHeartbeats 8000000
set_option maxRecDepth 100000
mutual
def spec_TreeOk.l0 : Nat → List (S57) → Int → Option (Bool)
 | 0, _, _ => none
 | k + 1, x0, x3 => if x3 < (x0.length : Int) then (if 0 ≤ x3 then ((spec_l10EntryOk.f k ((rd_T57 x0 x3).f0) ((rd_T57 x0 x3).f1) ((rd_T57 x0 x3).f2) ((rd_T57 x0 x3).f3)).bind fun t140 => (if t140 = true then (if x3 > 0 then (if 0 ≤ (wrap64 (x3 - 1)) then (if (wrap64 (x3 - 1)) < (x0.length : Int) then (spec_TreeOk.j1 k x0 x3 (!(Op.bytesLess (((rd_T57 x0 (wrap64 (x3 - 1))).f0).toList) (((rd_T57 x0 x3).f0).toList)))) else (none)) else (none)) else (spec_TreeOk.j1 k x0 x3 false)) else (spec_TreeOk.j1 k x0 x3 true))) else (none)) else (some true)
def spec_TreeOk.j1 : Nat → List (S57) → Int → Bool → Option (Bool)
 | 0, _, _, _ => none
 | k + 1, x0, x3, x37 => if x37 = true then (some false) else (if 0 ≤ x3 then (if x3 < (x0.length : Int) then ((spec_l10Up.f k ((rd_T57 x0 x3).f0)).bind fun t144 => (if t144.toList = ([] : List UInt8) then (spec_TreeOk.l0 k x0 (wrap64 (x3 + 1))) else (if x3 ≤ (x0.length : Int) then ((spec_l10Dir.f k (x0.take (x3 : Int).toNat) t144).bind fun t149 => (if t149 = true then (spec_TreeOk.l0 k x0 (wrap64 (x3 + 1))) else (some false))) else (none)))) else (none)) else (none))
end
def spec_TreeOk.f (k : Nat) (l0 : List (S57)) : Option (Bool) := if (l0.length : Int) > 500 then (some false) else (spec_TreeOk.l0 k l0 0)
def spec_TreeOk.T6 : Bool × List (List Nat × List Nat) := (true, [([], []), ([], []), ([0, 1], [0, 1]), ([2], [2]), ([3], [3]), ([4], [4]), ([5, 4], [5]), ([6], [6]), ([7, 6], [6, 7]), ([8, 6, 6], [6, 8]), ([9], [9]), ([9], [9]), ([11, 9], [9, 11]), ([10, 12, 9], [9, 10, 12]), ([13, 9], [9, 13]), ([14, 9], [9, 14]), ([9], [9]), ([9], [9]), ([16, 17, 9], [9, 16, 17]), ([18, 9], [9, 18]), ([19, 9], [9, 19]), ([15, 20, 9], [9, 15, 20]), ([9, 21, 6], [6, 9, 21]), ([6, 22], [6, 22])])
def spec_TreeOk.B6 : List Nat := [0, 0, 3, 7, 15, 31, 63, 127, 255, 511, 1023, 1023, 3071, 8191, 16383, 32767, 1023, 1023, 197631, 459775, 984063, 2097151, 4194303, 8388607]
theorem spec_TreeOk.tab6 : rtab .any (opsOf Tryz.f44 6) = spec_TreeOk.T6 := by kernel_rfl
theorem spec_TreeOk.bits6 : waitsOk spec_TreeOk.T6.2 spec_TreeOk.B6 = true := by kernel_rfl
theorem spec_TreeOk.calls (k : Nat) (A0 : Option Addr) (c0 : Nat) (l0 : List (S57)) (r : Bool) (w : World) (hr0 : Kd.C k57 w A0 l0.length l0) (hc0 : l0.length ≤ c0) (h : spec_TreeOk.f k l0 = some r) :
 Calls Tryz.prog 44 #[.slice A0 l0.length c0] w fun e w' => e = .returned (.bool r) ∧ Below w.heap.size w w' := by
 have hu57 := Tryz.underlying57
 have HR0 := Aside0.mk hr0
 have HC0 := Aside0.mk hc0
 clear hr0 hc0
 have HB := Aside0.mk (Below.refl w.heap.size w)
 have H : (if (l0.length : Int) > 500 then (some false) else (spec_TreeOk.l0 k l0 0)) = some r := h
 clear h
 by_cases c2 : (l0.length : Int) > 500
 {
 rw [if_pos c2] at H
 have c2b0 : decide (500 < (l0.length : Int)) = true := decide_eq_true c2
 have c2b1 : decide (500 < l0.length) = true := decide_eq_true (by omega)
 clear c2
 obtain rfl := Option.some.inj H
 go_enter Tryz.func44, Tryz.ntmps44
 go_wp2
 go_ret
 exact ⟨eR_, bw_ HB⟩}
 {
 rw [if_neg c2] at H
 have c2b0 : decide (500 < (l0.length : Int)) = false := decide_eq_false c2
 have c2b1 : decide (500 < l0.length) = false := decide_eq_false (by omega)
 clear c2
 have H' := Aside0.mk H
 clear H
 go_enter Tryz.func44, Tryz.ntmps44
 go_wp2
 go_loopg [3] k (fun kq v3 w' => ∃ (x3_1 : Int), v3 = .int .i64 x3_1 ∧ Aside0 (spec_TreeOk.l0 kq l0 x3_1 = some r) ∧ Aside0 (kq ≤ k) ∧ Aside0 (Below w.heap.size w w'))
 case atStart => exact ⟨(0), (by first | rfl | (simp; done) | (simp [*]; done)), H', ⟨Nat.le_refl _⟩, ⟨bw_ HB⟩⟩
 case round =>
  clear H'
  try clear c2
  try clear c2b0
  try clear c2b1
  try clear p2
  obtain ⟨x3_1, rfl, HA, HK1, HB⟩ := hrel
  cases gk with
  | zero => exact absurd HA.out (by simp [spec_TreeOk.l0])
  | succ k1 =>
       have H := HA.out
       clear HA
       simp only [spec_TreeOk.l0] at H
       by_cases c3 : x3_1 < (l0.length : Int)
       {
       rw [if_pos c3] at H
       have c3b0 := decide_eq_true c3
       clear c3
       have HC4 := Aside0.mk H
       clear H
       go_upto_region 6 with (fail)
       go_cut [37] (fun v37 wc => ∃ (kq : Nat) (x37_3 : Bool), v37 = .bool x37_3 ∧ Aside0 (spec_TreeOk.j1 kq l0 x3_1 x37_3 = some r) ∧ Aside0 (kq ≤ k1) ∧ Aside0 (Below w.heap.size w wc))
       case first =>
        have H := HC4.out
        clear HC4
        by_cases c5 : 0 ≤ x3_1
        {
        rw [if_pos c5] at H
        have c5b0 := decide_eq_true c5
        clear c5
        (first | rw [c5b0] | (simp only [i64_w, i32_w]; rw [c5b0]) | skip)
        replace H := Option.bind_eq_some_iff.mp H
        obtain ⟨t140, A60, H⟩ := H
        have A6 := Aside0.mk A60
        clear A60
        by_cases c7 : t140 = true
        {
        subst c7
        rw [if_pos rfl] at H
        by_cases c8 : x3_1 > 0
        {
        rw [if_pos c8] at H
        have c8b0 : decide (0 < x3_1) = true := decide_eq_true c8
        clear c8
        obtain ⟨ji9, hji9⟩ : ∃ j_ : Int, (wrap64 (x3_1 - 1)) = j_ := ⟨_, rfl⟩
        replace H : (if 0 ≤ (ji9) then (if (ji9) < (l0.length : Int) then (spec_TreeOk.j1 k1 l0 x3_1 (!(Op.bytesLess (((rd_T57 l0 (ji9)).f0).toList) (((rd_T57 l0 x3_1).f0).toList)))) else (none)) else (none)) = some r := by first | (rw [hji9] at H; exact H) | (simp only [hji9] at H ⊢; exact H)
        (try rw [hji9] at A6)
        have hji9w : (IntKind.i64.wrap (x3_1 - 1)) = ji9 := (i64_w _).trans hji9
        by_cases c10 : 0 ≤ (ji9)
        {
        rw [if_pos c10] at H
        have c10b0 := decide_eq_true c10
        clear c10
        by_cases c11 : (ji9) < (l0.length : Int)
        {
        rw [if_pos c11] at H
        have c11b0 := decide_eq_true c11
        clear c11
        have H' := Aside0.mk H
        clear H
        try go_wp2
        replace HB := Aside0.mk (below_drew1 HB.out)
        have p139 : 0 ≤ (x3_1 : Int) := dA_
        have q139 : x3_1 < (l0.length : Int) := dA_
        obtain ⟨ad139, e139, hx139_0, hx139_1, hx139_2, hx139_3⟩ := at_T57 HR0.out x3_1 p139 q139
        have hw139_3 := hx139_3
        have hw139_2 := hx139_2
        have hw139_1 := hx139_1
        have hw139_0 := hx139_0
        cases e139
        replace hx139_0 := hX_ HB hx139_0
        replace hx139_1 := hX_ HB hx139_1
        replace hx139_2 := hX_ HB hx139_2
        replace hx139_3 := hX_ HB hx139_3
        replace p139 := eq_true p139
        replace q139 := eq_true q139
        have p141 : 0 ≤ ((ji9) : Int) := dA_
        have q141 : (ji9) < (l0.length : Int) := dA_
        obtain ⟨ad141, e141, hx141_0, hx141_1, hx141_2, hx141_3⟩ := at_T57 HR0.out (ji9) p141 q141
        have hw141_3 := hx141_3
        have hw141_2 := hx141_2
        have hw141_1 := hx141_1
        have hw141_0 := hx141_0
        obtain rfl : ad139 = ad141 := (by injection e141)
        replace hx141_0 := hX_ HB hx141_0
        replace hx141_1 := hX_ HB hx141_1
        replace hx141_2 := hX_ HB hx141_2
        replace hx141_3 := hX_ HB hx141_3
        replace p141 := eq_true p141
        replace q141 := eq_true q141
        have p142 : 0 ≤ (x3_1 : Int) := dA_
        have q142 : x3_1 < (l0.length : Int) := dA_
        obtain ⟨ad142, e142, hx142_0, hx142_1, hx142_2, hx142_3⟩ := at_T57 HR0.out x3_1 p142 q142
        have hw142_3 := hx142_3
        have hw142_2 := hx142_2
        have hw142_1 := hx142_1
        have hw142_0 := hx142_0
        obtain rfl : ad139 = ad142 := (by injection e142)
        replace hx142_0 := hX_ HB hx142_0
        replace hx142_1 := hX_ HB hx142_1
        replace hx142_2 := hX_ HB hx142_2
        replace hx142_3 := hX_ HB hx142_3
        replace p142 := eq_true p142
        replace q142 := eq_true q142
        refine start_ (n := 24) (S := fun w' => w'.cell? (ad139.add ((x3_1).toNat * 4)) = some (.string ((rd_T57 l0 x3_1).f0)) ∧ w'.cell? ⟨(ad139.add ((x3_1).toNat * 4)).block, (ad139.add ((x3_1).toNat * 4)).off + 1, none⟩ = some (.int .i64 ((rd_T57 l0 x3_1).f1)) ∧ w'.cell? ⟨(ad139.add ((x3_1).toNat * 4)).block, (ad139.add ((x3_1).toNat * 4)).off + 2, none⟩ = some (.string ((rd_T57 l0 x3_1).f2)) ∧ w'.cell? ⟨(ad139.add ((x3_1).toNat * 4)).block, (ad139.add ((x3_1).toNat * 4)).off + 3, none⟩ = some (.bool ((rd_T57 l0 x3_1).f3)) ∧ w'.cell? (ad139.add (((ji9)).toNat * 4)) = some (.string ((rd_T57 l0 (ji9)).f0)) ∧ w'.cell? ⟨(ad139.add (((ji9)).toNat * 4)).block, (ad139.add (((ji9)).toNat * 4)).off + 1, none⟩ = some (.int .i64 ((rd_T57 l0 (ji9)).f1)) ∧ w'.cell? ⟨(ad139.add (((ji9)).toNat * 4)).block, (ad139.add (((ji9)).toNat * 4)).off + 2, none⟩ = some (.string ((rd_T57 l0 (ji9)).f2)) ∧ w'.cell? ⟨(ad139.add (((ji9)).toNat * 4)).block, (ad139.add (((ji9)).toNat * 4)).off + 3, none⟩ = some (.bool ((rd_T57 l0 (ji9)).f3)) ∧ w'.cell? (ad139.add ((x3_1).toNat * 4)) = some (.string ((rd_T57 l0 x3_1).f0)) ∧ w'.cell? ⟨(ad139.add ((x3_1).toNat * 4)).block, (ad139.add ((x3_1).toNat * 4)).off + 1, none⟩ = some (.int .i64 ((rd_T57 l0 x3_1).f1)) ∧ w'.cell? ⟨(ad139.add ((x3_1).toNat * 4)).block, (ad139.add ((x3_1).toNat * 4)).off + 2, none⟩ = some (.string ((rd_T57 l0 x3_1).f2)) ∧ w'.cell? ⟨(ad139.add ((x3_1).toNat * 4)).block, (ad139.add ((x3_1).toNat * 4)).off + 3, none⟩ = some (.bool ((rd_T57 l0 x3_1).f3))) (ds := []) (bs_ 24 0) (by kernel_rfl) rfl (by kernel_rfl) ⟨((HB.out.cell (World.block_lt_of_cell? w _ hw139_0)).trans hw139_0), ((HB.out.cell (World.block_lt_of_cell? w _ hw139_1)).trans hw139_1), ((HB.out.cell (World.block_lt_of_cell? w _ hw139_2)).trans hw139_2), ((HB.out.cell (World.block_lt_of_cell? w _ hw139_3)).trans hw139_3), ((HB.out.cell (World.block_lt_of_cell? w _ hw141_0)).trans hw141_0), ((HB.out.cell (World.block_lt_of_cell? w _ hw141_1)).trans hw141_1), ((HB.out.cell (World.block_lt_of_cell? w _ hw141_2)).trans hw141_2), ((HB.out.cell (World.block_lt_of_cell? w _ hw141_3)).trans hw141_3), ((HB.out.cell (World.block_lt_of_cell? w _ hw142_0)).trans hw142_0), ((HB.out.cell (World.block_lt_of_cell? w _ hw142_1)).trans hw142_1), ((HB.out.cell (World.block_lt_of_cell? w _ hw142_2)).trans hw142_2), ((HB.out.cell (World.block_lt_of_cell? w _ hw142_3)).trans hw142_3)⟩ (fun hHeld => ?_); refine with_tabW spec_TreeOk.tab6 spec_TreeOk.bits6 (fun HT_ HW_ => ?_)
        generalize wr.drew = w12 at HB hx139_0 hx139_1 hx139_2 hx139_3 hx141_0 hx141_1 hx141_2 hx141_3 hx142_0 hx142_1 hx142_2 hx142_3 hHeld ⊢
        refine pS_ 0 ?_
        refine pS_ 1 ?_
        refine pS_ 2 ?_
        refine t12_ 3 hHeld ?_
        refine oS_ 4 (fun K hK => ?_)
        refine gS_ Tryz.func70 #[.agg #[.string ((rd_T57 l0 x3_1).f0), .int .i64 ((rd_T57 l0 x3_1).f1), .string ((rd_T57 l0 x3_1).f2), .bool ((rd_T57 l0 x3_1).f3)]] ?_
        with_reducible refine (spec_l10EntryOk.calls k1 ((rd_T57 l0 x3_1).f0) ((rd_T57 l0 x3_1).f1) ((rd_T57 l0 x3_1).f2) ((rd_T57 l0 x3_1).f3) true _ A6.out).mono ?_
        rintro e w13 ⟨rfl, hb⟩
        refine ⟨_, rfl, ?_⟩
        replace HB := Aside0.mk (below_step (bw_ HB) hb)
        (try clear hb)
        (try clear hb2)
        (try clear hk)
        (try clear hi)
        refine hK.out _ _ ⟨((HB.out.cell (World.block_lt_of_cell? w _ hw139_0)).trans hw139_0), ((HB.out.cell (World.block_lt_of_cell? w _ hw139_1)).trans hw139_1), ((HB.out.cell (World.block_lt_of_cell? w _ hw139_2)).trans hw139_2), ((HB.out.cell (World.block_lt_of_cell? w _ hw139_3)).trans hw139_3), ((HB.out.cell (World.block_lt_of_cell? w _ hw141_0)).trans hw141_0), ((HB.out.cell (World.block_lt_of_cell? w _ hw141_1)).trans hw141_1), ((HB.out.cell (World.block_lt_of_cell? w _ hw141_2)).trans hw141_2), ((HB.out.cell (World.block_lt_of_cell? w _ hw141_3)).trans hw141_3), ((HB.out.cell (World.block_lt_of_cell? w _ hw142_0)).trans hw142_0), ((HB.out.cell (World.block_lt_of_cell? w _ hw142_1)).trans hw142_1), ((HB.out.cell (World.block_lt_of_cell? w _ hw142_2)).trans hw142_2), ((HB.out.cell (World.block_lt_of_cell? w _ hw142_3)).trans hw142_3)⟩ (fun hHeld => ?_)
        clear hK K
        refine nS_ 18 ?_
        refine pS_ 5 ?_
        refine pS_ 6 ?_
        refine pS_ 7 ?_
        refine pS_ 8 ?_
        refine pS_ 9 ?_
        refine pS_ 10 ?_
        refine pS_ 11 ?_
        refine pS_ 12 ?_
        refine pS_ 13 ?_
        refine pS_ 14 ?_
        refine pS_ 16 ?_
        refine pS_ 17 ?_
        refine pS_ 18 ?_
        refine pS_ 19 ?_
        refine t12_ 15 hHeld ?_
        refine t12_ 20 hHeld ?_
        refine pS_ 21 ?_
        refine pS_ 22 ?_
        refine pS_ 23 ?_
        refine done_ (done_of HT_.out (by kernel_rfl)) ?_
        try go_wp2
        go_meet
        case rel => exact ⟨_, (!(Op.bytesLess (((rd_T57 l0 (ji9)).f0).toList) (((rd_T57 l0 x3_1).f0).toList))), (by first | rfl | (simp; done) | (simp only [← hji9] <;> (first | rfl | simp)) | (simp [*]; done)), H', ⟨by have := HK1.out; first | omega | exact Nat.le_refl _⟩, ⟨bw_ HB⟩⟩}
        {
        rw [if_neg c11] at H
        exact absurd H (by simp)}}
        {
        rw [if_neg c10] at H
        exact absurd H (by simp)}}
        {
        rw [if_neg c8] at H
        have c8b0 : decide (0 < x3_1) = false := decide_eq_false c8
        clear c8
        have H' := Aside0.mk H
        clear H
        try go_wp2
        replace HB := Aside0.mk (below_drew1 HB.out)
        have p139 : 0 ≤ (x3_1 : Int) := dA_
        have q139 : x3_1 < (l0.length : Int) := dA_
        obtain ⟨ad139, e139, hx139_0, hx139_1, hx139_2, hx139_3⟩ := at_T57 HR0.out x3_1 p139 q139
        have hw139_3 := hx139_3
        have hw139_2 := hx139_2
        have hw139_1 := hx139_1
        have hw139_0 := hx139_0
        cases e139
        replace hx139_0 := hX_ HB hx139_0
        replace hx139_1 := hX_ HB hx139_1
        replace hx139_2 := hX_ HB hx139_2
        replace hx139_3 := hX_ HB hx139_3
        replace p139 := eq_true p139
        replace q139 := eq_true q139
        refine start_ (n := 24) (S := fun w' => w'.cell? (ad139.add ((x3_1).toNat * 4)) = some (.string ((rd_T57 l0 x3_1).f0)) ∧ w'.cell? ⟨(ad139.add ((x3_1).toNat * 4)).block, (ad139.add ((x3_1).toNat * 4)).off + 1, none⟩ = some (.int .i64 ((rd_T57 l0 x3_1).f1)) ∧ w'.cell? ⟨(ad139.add ((x3_1).toNat * 4)).block, (ad139.add ((x3_1).toNat * 4)).off + 2, none⟩ = some (.string ((rd_T57 l0 x3_1).f2)) ∧ w'.cell? ⟨(ad139.add ((x3_1).toNat * 4)).block, (ad139.add ((x3_1).toNat * 4)).off + 3, none⟩ = some (.bool ((rd_T57 l0 x3_1).f3))) (ds := []) (bs_ 24 0) (by kernel_rfl) rfl (by kernel_rfl) ⟨((HB.out.cell (World.block_lt_of_cell? w _ hw139_0)).trans hw139_0), ((HB.out.cell (World.block_lt_of_cell? w _ hw139_1)).trans hw139_1), ((HB.out.cell (World.block_lt_of_cell? w _ hw139_2)).trans hw139_2), ((HB.out.cell (World.block_lt_of_cell? w _ hw139_3)).trans hw139_3)⟩ (fun hHeld => ?_); refine with_tabW spec_TreeOk.tab6 spec_TreeOk.bits6 (fun HT_ HW_ => ?_)
        generalize wr.drew = w14 at HB hx139_0 hx139_1 hx139_2 hx139_3 hHeld ⊢
        refine pS_ 0 ?_
        refine pS_ 1 ?_
        refine pS_ 2 ?_
        refine t4_ 3 hHeld ?_
        refine oS_ 4 (fun K hK => ?_)
        refine gS_ Tryz.func70 #[.agg #[.string ((rd_T57 l0 x3_1).f0), .int .i64 ((rd_T57 l0 x3_1).f1), .string ((rd_T57 l0 x3_1).f2), .bool ((rd_T57 l0 x3_1).f3)]] ?_
        with_reducible refine (spec_l10EntryOk.calls k1 ((rd_T57 l0 x3_1).f0) ((rd_T57 l0 x3_1).f1) ((rd_T57 l0 x3_1).f2) ((rd_T57 l0 x3_1).f3) true _ A6.out).mono ?_
        rintro e w15 ⟨rfl, hb⟩
        refine ⟨_, rfl, ?_⟩
        replace HB := Aside0.mk (below_step (bw_ HB) hb)
        (try clear hb)
        (try clear hb2)
        (try clear hk)
        (try clear hi)
        refine hK.out _ _ ⟨((HB.out.cell (World.block_lt_of_cell? w _ hw139_0)).trans hw139_0), ((HB.out.cell (World.block_lt_of_cell? w _ hw139_1)).trans hw139_1), ((HB.out.cell (World.block_lt_of_cell? w _ hw139_2)).trans hw139_2), ((HB.out.cell (World.block_lt_of_cell? w _ hw139_3)).trans hw139_3)⟩ (fun hHeld => ?_)
        clear hK K
        refine nS_ 18 ?_
        refine pS_ 5 ?_
        refine pS_ 6 ?_
        refine pS_ 7 ?_
        refine pS_ 8 ?_
        refine pS_ 9 ?_
        refine pU_ 10 ?_
        refine pU_ 11 ?_
        refine pU_ 12 ?_
        refine pU_ 13 ?_
        refine pU_ 14 ?_
        refine pU_ 15 ?_
        refine pU_ 16 ?_
        refine pU_ 17 ?_
        refine pU_ 18 ?_
        refine pU_ 19 ?_
        refine pU_ 20 ?_
        refine pU_ 21 ?_
        refine pS_ 22 ?_
        refine pS_ 23 ?_
        refine done_ (done_of HT_.out (by kernel_rfl)) ?_
        try go_wp2
        go_meet
        case rel => exact ⟨_, (false), (by first | rfl | (simp; done) | (simp [*]; done)), H', ⟨by have := HK1.out; first | omega | exact Nat.le_refl _⟩, ⟨bw_ HB⟩⟩}}
        {
        replace c7 := Bool.eq_false_iff.mpr c7
        subst c7
        rw [if_neg (show ¬ (false = true) by decide)] at H
        have H' := Aside0.mk H
        clear H
        try go_wp2
        replace HB := Aside0.mk (below_drew1 HB.out)
        have p139 : 0 ≤ (x3_1 : Int) := dA_
        have q139 : x3_1 < (l0.length : Int) := dA_
        obtain ⟨ad139, e139, hx139_0, hx139_1, hx139_2, hx139_3⟩ := at_T57 HR0.out x3_1 p139 q139
        have hw139_3 := hx139_3
        have hw139_2 := hx139_2
        have hw139_1 := hx139_1
        have hw139_0 := hx139_0
        cases e139
        replace hx139_0 := hX_ HB hx139_0
        replace hx139_1 := hX_ HB hx139_1
        replace hx139_2 := hX_ HB hx139_2
        replace hx139_3 := hX_ HB hx139_3
        replace p139 := eq_true p139
        replace q139 := eq_true q139
        refine start_ (n := 24) (S := fun w' => w'.cell? (ad139.add ((x3_1).toNat * 4)) = some (.string ((rd_T57 l0 x3_1).f0)) ∧ w'.cell? ⟨(ad139.add ((x3_1).toNat * 4)).block, (ad139.add ((x3_1).toNat * 4)).off + 1, none⟩ = some (.int .i64 ((rd_T57 l0 x3_1).f1)) ∧ w'.cell? ⟨(ad139.add ((x3_1).toNat * 4)).block, (ad139.add ((x3_1).toNat * 4)).off + 2, none⟩ = some (.string ((rd_T57 l0 x3_1).f2)) ∧ w'.cell? ⟨(ad139.add ((x3_1).toNat * 4)).block, (ad139.add ((x3_1).toNat * 4)).off + 3, none⟩ = some (.bool ((rd_T57 l0 x3_1).f3))) (ds := []) (bs_ 24 0) (by kernel_rfl) rfl (by kernel_rfl) ⟨((HB.out.cell (World.block_lt_of_cell? w _ hw139_0)).trans hw139_0), ((HB.out.cell (World.block_lt_of_cell? w _ hw139_1)).trans hw139_1), ((HB.out.cell (World.block_lt_of_cell? w _ hw139_2)).trans hw139_2), ((HB.out.cell (World.block_lt_of_cell? w _ hw139_3)).trans hw139_3)⟩ (fun hHeld => ?_); refine with_tabW spec_TreeOk.tab6 spec_TreeOk.bits6 (fun HT_ HW_ => ?_)
        generalize wr.drew = w16 at HB hx139_0 hx139_1 hx139_2 hx139_3 hHeld ⊢
        refine pS_ 0 ?_
        refine pS_ 1 ?_
        refine pS_ 2 ?_
        refine t4_ 3 hHeld ?_
        refine oS_ 4 (fun K hK => ?_)
        refine gS_ Tryz.func70 #[.agg #[.string ((rd_T57 l0 x3_1).f0), .int .i64 ((rd_T57 l0 x3_1).f1), .string ((rd_T57 l0 x3_1).f2), .bool ((rd_T57 l0 x3_1).f3)]] ?_
        with_reducible refine (spec_l10EntryOk.calls k1 ((rd_T57 l0 x3_1).f0) ((rd_T57 l0 x3_1).f1) ((rd_T57 l0 x3_1).f2) ((rd_T57 l0 x3_1).f3) false _ A6.out).mono ?_
        rintro e w17 ⟨rfl, hb⟩
        refine ⟨_, rfl, ?_⟩
        replace HB := Aside0.mk (below_step (bw_ HB) hb)
        (try clear hb)
        (try clear hb2)
        (try clear hk)
        (try clear hi)
        refine hK.out _ _ ⟨((HB.out.cell (World.block_lt_of_cell? w _ hw139_0)).trans hw139_0), ((HB.out.cell (World.block_lt_of_cell? w _ hw139_1)).trans hw139_1), ((HB.out.cell (World.block_lt_of_cell? w _ hw139_2)).trans hw139_2), ((HB.out.cell (World.block_lt_of_cell? w _ hw139_3)).trans hw139_3)⟩ (fun hHeld => ?_)
        clear hK K
        refine nS_ 18 ?_
        refine pS_ 5 ?_
        refine pS_ 6 ?_
        refine pU_ 7 ?_
        refine pU_ 8 ?_
        refine pU_ 9 ?_
        refine pU_ 10 ?_
        refine pU_ 11 ?_
        refine pU_ 12 ?_
        refine pU_ 13 ?_
        refine pU_ 14 ?_
        refine pU_ 15 ?_
        refine pU_ 16 ?_
        refine pU_ 17 ?_
        refine pU_ 18 ?_
        refine pU_ 19 ?_
        refine pU_ 20 ?_
        refine pU_ 21 ?_
        refine pU_ 22 ?_
        refine pS_ 23 ?_
        refine done_ (done_of HT_.out (by kernel_rfl)) ?_
        try go_wp2
        go_meet
        case rel => exact ⟨_, (true), (by first | rfl | (simp; done) | (simp [*]; done)), H', ⟨by have := HK1.out; first | omega | exact Nat.le_refl _⟩, ⟨bw_ HB⟩⟩}}
        {
        rw [if_neg c5] at H
        exact absurd H (by simp)}
       case rest =>
        clear HC4
        try clear c1
        try clear p1
        try clear q1
        try clear hx1
        try clear p2
        try clear c5
        try clear c7
        try clear c8
        try clear c8b0
        try clear c10
        try clear c11
        try clear p13
        try clear q13
        try clear hx13
        try clear p14
        try clear q14
        try clear hx14
        try clear hx139_0
        try clear hx139_1
        try clear hx139_2
        try clear hx139_3
        try clear hx141_0
        try clear hx141_1
        try clear hx141_2
        try clear hx141_3
        try clear hx142_0
        try clear hx142_1
        try clear hx142_2
        try clear hx142_3
        try clear p139
        try clear p141
        try clear p142
        try clear q139
        try clear q141
        try clear q142
        obtain ⟨kq, x37_3, rfl, HA, HJ3, HB⟩ := hcut
        cases kq with
        | zero => exact absurd HA.out (by simp [spec_TreeOk.j1])
        | succ kj3 =>
             have H := HA.out
             clear HA
             simp only [spec_TreeOk.j1] at H
             by_cases c18 : x37_3 = true
             {
             subst c18
             rw [if_pos rfl] at H
             obtain rfl := Option.some.inj H
             go_wp2
             go_ret
             exact ⟨eR_, bw_ HB⟩}
             {
             replace c18 := Bool.eq_false_iff.mpr c18
             subst c18
             rw [if_neg (show ¬ (false = true) by decide)] at H
             by_cases c19 : 0 ≤ x3_1
             {
             rw [if_pos c19] at H
             have c19b0 := decide_eq_true c19
             clear c19
             by_cases c20 : x3_1 < (l0.length : Int)
             {
             rw [if_pos c20] at H
             have c20b0 := decide_eq_true c20
             clear c20
             replace H := Option.bind_eq_some_iff.mp H
             obtain ⟨t144, A210, H⟩ := H
             have A21 := Aside0.mk A210
             clear A210
             by_cases c22 : t144.toList = ([] : List UInt8)
             {
             rw [if_pos c22] at H
             have c22b0 : (t144.toList == ([] : List UInt8)) = true := beq_iff_eq.mpr c22
             have c22b1 : (t144.toList != ([] : List UInt8)) = false := bne_eq_false_iff_eq.mpr c22
             clear c22
             have H' := Aside0.mk H
             clear H
             have p143 : 0 ≤ (x3_1 : Int) := dA_
             have q143 : x3_1 < (l0.length : Int) := dA_
             obtain ⟨ad143, e143, hx143_0, hx143_1, hx143_2, hx143_3⟩ := at_T57 HR0.out x3_1 p143 q143
             cases e143
             replace hx143_0 := hX_ HB hx143_0
             replace hx143_1 := hX_ HB hx143_1
             replace hx143_2 := hX_ HB hx143_2
             replace hx143_3 := hX_ HB hx143_3
             replace p143 := eq_true p143
             replace q143 := eq_true q143
             go_wp2_with (first | ((with_reducible refine gate_callee (f := 71) rfl ?_); refine gL_ (some 43) Tryz.func71 #[.string ((rd_T57 l0 x3_1).f0)] ?_; (with_reducible refine (spec_l10Up.calls kj3 ((rd_T57 l0 x3_1).f0) t144 _ A21.out).mono ?_); rintro e w' ⟨rfl, ⟨nd, rfl⟩⟩; refine ⟨_, rfl, ?_⟩))
             go_roundg kj3
             case measure => have := HK1.out; have := HJ3.out; omega
             case rel => exact ⟨(wrap64 (x3_1 + 1)), (by first | rfl | (simp; done) | (simp [*]; done)), H', ⟨by have := HK1.out; have := HJ3.out; omega⟩, ⟨bw_ HB⟩⟩}
             {
             rw [if_neg c22] at H
             have c22b0 : (t144.toList == ([] : List UInt8)) = false := beq_eq_false_iff_ne.mpr c22
             have c22b1 : (t144.toList != ([] : List UInt8)) = true := bne_iff_ne.mpr c22
             have c23b0 := eq_true (dA_ : 0 ≤ x3_1)
             by_cases c24 : x3_1 ≤ (l0.length : Int)
             {
             rw [if_pos c24] at H
             have c24b0 := eq_true c24
             have c24b1 := decide_eq_true c24
             clear c24
             obtain ⟨y145, hy145⟩ : ∃ y_ : List (S57), y_ = (l0.take (x3_1 : Int).toNat) := ⟨_, rfl⟩
             replace H : ((spec_l10Dir.f kj3 y145 t144).bind fun t149 => (if t149 = true then (spec_TreeOk.l0 kj3 l0 (wrap64 (x3_1 + 1))) else (some false))) = some r := rH_ hy145 H
             have Ny145 := Aside0.mk hy145
             clear hy145
             replace H := Option.bind_eq_some_iff.mp H
             obtain ⟨t149, A250, H⟩ := H
             have A25 := Aside0.mk A250
             clear A250
             by_cases c26 : t149 = true
             {
             subst c26
             rw [if_pos rfl] at H
             have H' := Aside0.mk H
             clear H
             have p143 : 0 ≤ (x3_1 : Int) := dA_
             have q143 : x3_1 < (l0.length : Int) := dA_
             obtain ⟨ad143, e143, hx143_0, hx143_1, hx143_2, hx143_3⟩ := at_T57 HR0.out x3_1 p143 q143
             cases e143
             replace hx143_0 := hX_ HB hx143_0
             replace hx143_1 := hX_ HB hx143_1
             replace hx143_2 := hX_ HB hx143_2
             replace hx143_3 := hX_ HB hx143_3
             replace p143 := eq_true p143
             replace q143 := eq_true q143
             go_wp2_with (first | ((with_reducible refine gate_callee (f := 71) rfl ?_); refine gL_ (some 43) Tryz.func71 #[.string ((rd_T57 l0 x3_1).f0)] ?_; (with_reducible refine (spec_l10Up.calls kj3 ((rd_T57 l0 x3_1).f0) t144 _ A21.out).mono ?_); rintro e w' ⟨rfl, ⟨nd, rfl⟩⟩; refine ⟨_, rfl, ?_⟩; have q27 : (x3_1 : Int) ≤ ((l0.length : Int) : Int) := dA_; obtain ⟨i027, hi027, _, hsz27, _⟩ := info_parts info57; have hroom27 : l0.length ≤ c0 := HC0.out; have hC27 : Kd.C k57 _ (some ad143) l0.length l0 := HR0.out; have hcut27 := cut_to (P := Tryz.prog) 39 57 .i64 Tryz.underlying39 hi027 (some ad143) l0.length c0 x3_1 (dA_) q27 hroom27; have hr27 := Kd.C_take (m := (x3_1 : Int).toNat) hC27 (by omega); have hy27 : y145.length = (x3_1 : Int).toNat := (by rw [Ny145.out, List.length_take]; omega); rw [← Ny145.out] at hr27; rw [← hy27] at hcut27; have HR148 := Aside0.mk hr27; have HC148 := Aside0.mk (show y145.length ≤ c0 from by omega); clear hr27 hC27 hroom27 hi027 hsz27; have KY27 := Aside0.mk hy27; clear hy27; replace q27 := eq_true q27) | (go_at_call 72; (with_reducible refine (spec_l10Dir.calls kj3 _ _ y145 t144 true _ ?side1 ?side2 A25.out).mono ?_); (case side1 => repeat (first | exact (Kd.C_below HR148.out (bw_ HB)) | (with_reducible refine Kd.C_alloc ?_ _) | (with_reducible refine Kd.C_drewN ?_ _) | (with_reducible refine Kd.C_drew ?_))); (case side2 => exact HC148.out); rintro e w' ⟨rfl, ⟨nd, rfl⟩⟩))
             go_roundg kj3
             case measure => have := HK1.out; have := HJ3.out; omega
             case rel => exact ⟨(wrap64 (x3_1 + 1)), (by first | rfl | (simp; done) | (simp [*]; done)), H', ⟨by have := HK1.out; have := HJ3.out; omega⟩, ⟨bw_ HB⟩⟩}
             {
             replace c26 := Bool.eq_false_iff.mpr c26
             subst c26
             rw [if_neg (show ¬ (false = true) by decide)] at H
             obtain rfl := Option.some.inj H
             have p143 : 0 ≤ (x3_1 : Int) := dA_
             have q143 : x3_1 < (l0.length : Int) := dA_
             obtain ⟨ad143, e143, hx143_0, hx143_1, hx143_2, hx143_3⟩ := at_T57 HR0.out x3_1 p143 q143
             cases e143
             replace hx143_0 := hX_ HB hx143_0
             replace hx143_1 := hX_ HB hx143_1
             replace hx143_2 := hX_ HB hx143_2
             replace hx143_3 := hX_ HB hx143_3
             replace p143 := eq_true p143
             replace q143 := eq_true q143
             go_wp2_with (first | ((with_reducible refine gate_callee (f := 71) rfl ?_); refine gL_ (some 43) Tryz.func71 #[.string ((rd_T57 l0 x3_1).f0)] ?_; (with_reducible refine (spec_l10Up.calls kj3 ((rd_T57 l0 x3_1).f0) t144 _ A21.out).mono ?_); rintro e w' ⟨rfl, ⟨nd, rfl⟩⟩; refine ⟨_, rfl, ?_⟩; have q28 : (x3_1 : Int) ≤ ((l0.length : Int) : Int) := dA_; obtain ⟨i028, hi028, _, hsz28, _⟩ := info_parts info57; have hroom28 : l0.length ≤ c0 := HC0.out; have hC28 : Kd.C k57 _ (some ad143) l0.length l0 := HR0.out; have hcut28 := cut_to (P := Tryz.prog) 39 57 .i64 Tryz.underlying39 hi028 (some ad143) l0.length c0 x3_1 (dA_) q28 hroom28; have hr28 := Kd.C_take (m := (x3_1 : Int).toNat) hC28 (by omega); have hy28 : y145.length = (x3_1 : Int).toNat := (by rw [Ny145.out, List.length_take]; omega); rw [← Ny145.out] at hr28; rw [← hy28] at hcut28; have HR148 := Aside0.mk hr28; have HC148 := Aside0.mk (show y145.length ≤ c0 from by omega); clear hr28 hC28 hroom28 hi028 hsz28; have KY28 := Aside0.mk hy28; clear hy28; replace q28 := eq_true q28) | (go_at_call 72; (with_reducible refine (spec_l10Dir.calls kj3 _ _ y145 t144 false _ ?side1 ?side2 A25.out).mono ?_); (case side1 => repeat (first | exact (Kd.C_below HR148.out (bw_ HB)) | (with_reducible refine Kd.C_alloc ?_ _) | (with_reducible refine Kd.C_drewN ?_ _) | (with_reducible refine Kd.C_drew ?_))); (case side2 => exact HC148.out); rintro e w' ⟨rfl, ⟨nd, rfl⟩⟩))
             go_ret
             exact ⟨eR_, bw_ HB⟩}}
             {
             rw [if_neg c24] at H
             exact absurd H (by simp)}}}
             {
             rw [if_neg c20] at H
             exact absurd H (by simp)}}
             {
             rw [if_neg c19] at H
             exact absurd H (by simp)}}}
       {
       rw [if_neg c3] at H
       have c3b0 := decide_eq_false c3
       clear c3
       obtain rfl := Option.some.inj H
       go_wp2
       go_ret
       exact ⟨eR_, bw_ HB⟩
}}
def laws_markText.l0 : Nat → Int → ByteArray → Option (ByteArray)
 | 0, _, _ => none
 | k + 1, x0, x3 => if x0 > 0 then ((some (([(wrap64 (48 + (Int.tmod x0 10))) % 256] : List Int) : List Int)).bind fun y579 => (if (strOfNums y579).size + x3.size ≤ 9223372036854775807 then (laws_markText.l0 k (wrap64 (Int.tdiv x0 10)) ((strOfNums y579) ++ x3)) else (none))) else (if 1 + x3.size ≤ 9223372036854775807 then (some ((⟨#[109]⟩ : ByteArray) ++ x3)) else (none))
def laws_markText.f (k : Nat) (a0 : Int) : Option (ByteArray) := if a0 ≤ 0 then (some (⟨#[109, 48]⟩ : ByteArray)) else (laws_markText.l0 k a0 (⟨#[]⟩ : ByteArray))
theorem laws_markText.mono_l : ∀ k, (∀ y0 y1, LeO (laws_markText.l0 k y0 y1) (laws_markText.l0 (k + 1) y0 y1))
 | 0 => fun _ _ r h => by simp [laws_markText.l0] at h
 | k + 1 => by
      have ih0 := laws_markText.mono_l k
      {
      intro y0 y1
      unfold laws_markText.l0
      repeat' first
      | (with_reducible exact ih0 _ _)
      | (with_reducible exact LeO.refl _)
      | (with_reducible exact LeO.none _)
      | (with_reducible refine LeO.ite ?_ ?_)
      | (with_reducible refine LeO.bind ?_ (fun _ => ?_))
      | exact ih0 _ _
      | exact LeO.none _
      | refine LeO.ite ?_ ?_
      | refine LeO.bind ?_ (fun _ => ?_)}
theorem laws_markText.mono : ∀ a0 k, LeO (laws_markText.f k a0) (laws_markText.f (k + 1) a0) := by
 intro a0 k
 have ih0 := laws_markText.mono_l k
 unfold laws_markText.f
 repeat' first
  | (with_reducible exact ih0 _ _)
  | (with_reducible exact LeO.refl _)
  | (with_reducible exact LeO.none _)
  | (with_reducible refine LeO.ite ?_ ?_)
  | (with_reducible refine LeO.bind ?_ (fun _ => ?_))
  | exact ih0 _ _
  | exact LeO.none _
  | refine LeO.ite ?_ ?_
  | refine LeO.bind ?_ (fun _ => ?_)
theorem laws_markText.calls (k : Nat) (a0 : Int) (r : ByteArray) (w : World) (h : laws_markText.f k a0 = some r) :
 Calls Tryz.prog 41 #[.int .i64 a0] w fun e w' => e = .returned (.string r) ∧ Below w.heap.size w w' := by
 have HB := Aside0.mk (Below.refl w.heap.size w)
 have H : (if a0 ≤ 0 then (some (⟨#[109, 48]⟩ : ByteArray)) else (laws_markText.l0 k a0 (⟨#[]⟩ : ByteArray))) = some r := h
 clear h
 by_cases c2 : a0 ≤ 0
 {
 rw [if_pos c2] at H
 have c2b0 := decide_eq_true c2
 clear c2
 obtain rfl := Option.some.inj H
 go_enter Tryz.func41, Tryz.ntmps41
 go_wp2
 go_ret
 exact ⟨eR_, bw_ HB⟩}
 {
 rw [if_neg c2] at H
 have c2b0 := decide_eq_false c2
 clear c2
 have H' := Aside0.mk H
 clear H
 go_enter Tryz.func41, Tryz.ntmps41
 go_wp2
 go_loopg [0, 3] k (fun kq v0 v3 w' => ∃ (x0_1 : Int) (x3_1 : ByteArray), v0 = .int .i64 x0_1 ∧ v3 = .string x3_1 ∧ Aside0 (laws_markText.l0 kq x0_1 x3_1 = some r) ∧ Aside0 (kq ≤ k) ∧ Aside0 (Below w.heap.size w w'))
 case atStart => exact ⟨(a0), ((⟨#[]⟩ : ByteArray)), (by first | rfl | (simp; done) | (simp [*]; done)), (by first | rfl | (simp; done) | (simp [*]; done)), H', ⟨Nat.le_refl _⟩, ⟨bw_ HB⟩⟩
 case round =>
  clear H'
  try clear c2
  try clear c2b0
  try clear p2
  obtain ⟨x0_1, x3_1, rfl, rfl, HA, HK1, HB⟩ := hrel
  cases gk with
  | zero => exact absurd HA.out (by simp [laws_markText.l0])
  | succ k1 =>
       have H := HA.out
       clear HA
       simp only [laws_markText.l0] at H
       by_cases c3 : x0_1 > 0
       {
       rw [if_pos c3] at H
       have c3b0 : decide (0 < x0_1) = true := decide_eq_true c3
       clear c3
       obtain ⟨y579, hy579⟩ : ∃ y_ : List Int, y_ = (([(wrap64 (48 + (Int.tmod x0_1 10))) % 256] : List Int)) := ⟨_, rfl⟩
       replace H : (if (strOfNums y579).size + x3_1.size ≤ 9223372036854775807 then (laws_markText.l0 k1 (wrap64 (Int.tdiv x0_1 10)) ((strOfNums y579) ++ x3_1)) else (none)) = some r := rH_ hy579 H
       have Ny579 := Aside0.mk hy579
       clear hy579
       by_cases c4 : (strOfNums y579).size + x3_1.size ≤ 9223372036854775807
       {
       rw [if_pos c4] at H
       have c4b0 := eq_true c4
       have c4b1 := decide_eq_true c4
       try have c4b2 : (9223372036854775807 < (strOfNums y579).size + x3_1.size) = False := eq_false (Nat.not_lt.2 c4)
       have H' := Aside0.mk H
       clear H
       go_wp2_with (first | ((with_reducible refine gate_dst (N := 12) rfl ?_); refine Kd.R_lit (Kd.int .u8) _ 5 ?hg (N := 12) ?hd (xs := ([(wrap64 (48 + (Int.tmod x0_1 10))) % 256] : List Int)) (inner := [.int .u8 ((wrap64 (48 + (Int.tmod x0_1 10))) % 256)]) (ok := fun _ => True) (okp := fun _ => True) ?hr ?hp (fun _ hk => hk) trivial (Below.refl _ _) (Nat.le_refl _) (by simp) ?_; (case hd => rfl); (case hg => rfl); (case hr => first | (go_simp; done) | (go_simp; rfl)); (case hp => exact (Reps.one (show Kd.M (Kd.int .u8) _ _ _ ((wrap64 (48 + (Int.tmod x0_1 10))) % 256) [.int .u8 ((wrap64 (48 + (Int.tmod x0_1 10))) % 256)] from rfl) (Reps.none _ _))); intro v580 w5 ho6 hb hg_ hnew_; clear hg_ hnew_; (first | rw [← Ny579.out] at ho6 | (simp only [Int.reduceToNat] at ho6; rw [← Ny579.out] at ho6)); have HO581 := Aside0.mk (Kd.R_lower ho6 (below_size (bw_ HB))); replace HB := Aside0.mk (below_step (bw_ HB) hb); clear hb ho6; have hcv7 := own_string (P := Tryz.prog) Tryz.underlying88 Tryz.underlying5 Tryz.underlying9 (Kd.own_of_R HO581.out)))
       go_roundg k1
       case measure => have := HK1.out; omega
       case rel => exact ⟨(wrap64 (Int.tdiv x0_1 10)), ((strOfNums y579) ++ x3_1), (by first | rfl | (simp; done) | (simp [*]; done)), (by first | rfl | (simp; done) | (simp [*]; done)), H', ⟨by have := HK1.out; omega⟩, ⟨bw_ HB⟩⟩}
       {
       rw [if_neg c4] at H
       exact absurd H (by simp)}}
       {
       rw [if_neg c3] at H
       have c3b0 : decide (0 < x0_1) = false := decide_eq_false c3
       clear c3
       by_cases c8 : 1 + x3_1.size ≤ 9223372036854775807
       {
       rw [if_pos c8] at H
       have c8b0 := eq_true c8
       have c8b1 := decide_eq_true c8
       try have c8b2 : (9223372036854775807 < 1 + x3_1.size) = False := eq_false (Nat.not_lt.2 c8)
       obtain rfl := Option.some.inj H
       go_wp2
       go_ret
       exact ⟨eR_, bw_ HB⟩}
       {
       rw [if_neg c8] at H
       exact absurd H (by simp)
}}}
def laws_markStringS.l0 : Nat → List ByteArray → Int → Int → Option (Int × List ByteArray)
 | 0, _, _, _ => none
 | k + 1, x0, x1, x5 => if x5 < (x0.length : Int) then ((laws_markText.f k x1).bind fun t582 => (if 0 ≤ x5 then (laws_markStringS.l0 k (x0.set (x5 : Int).toNat t582) (wrap64 (x1 + 1)) (wrap64 (x5 + 1))) else (none))) else (some (x1, x0))
def laws_markStringS.f (k : Nat) (l0 : List ByteArray) (a1 : Int) : Option (Int × List ByteArray) := laws_markStringS.l0 k l0 a1 0
theorem laws_markStringS.calls (k : Nat) (P0_ : Nat → Prop) (u9000_ : Value) (l0 : List ByteArray) (a1 : Int) (r1 : Int) (r2 : List ByteArray) (w0 w : World) (hB : Below w0.heap.size w0 w) (ho0 : Kd.R Kd.string 9 w w0.heap.size P0_ u9000_ l0) (h : laws_markStringS.f k l0 a1 = some (r1, r2)) :
 Calls Tryz.prog 17 #[u9000_, .int .i64 a1] w fun e w' => e = .returned (.int .i64 r1) ∧ Kd.R Kd.string 9 w' w0.heap.size (fun k_ => (P0_ k_ ∨ w.heap.size ≤ k_)) u9000_ r2 ∧ Below w0.heap.size w0 w' ∧ Kept w w' (fun k_ => P0_ k_) := by
 have HO0 := Aside0.mk (show Kd.R Kd.string 9 w w0.heap.size (fun k_ => (P0_ k_ ∨ w.heap.size ≤ k_)) u9000_ l0 from Kd.R_mono ho0 (fun k_ hk => (.inl hk)))
 have HK := Aside0.mk (Kept.refl w (fun k_ => P0_ k_))
 have HW0 := Aside0.mk hB.size
 have HB := Aside0.mk hB
 clear hB
 have H : (laws_markStringS.l0 k l0 a1 0) = some (r1, r2) := h
 clear h
 have H' := Aside0.mk H
 clear H
 go_enter Tryz.func17, Tryz.ntmps17
 go_wp2
 go_loopg [1, 5] k (fun kq v1 v5 w' => ∃ (x0_1 : List ByteArray) (x1_1 : Int) (x5_1 : Int), v1 = .int .i64 x1_1 ∧ v5 = .int .i64 x5_1 ∧ Aside0 (laws_markStringS.l0 kq x0_1 x1_1 x5_1 = some (r1, r2)) ∧ Aside0 (kq ≤ k) ∧ Aside0 (Kd.R Kd.string 9 w' w0.heap.size (fun k_ => (P0_ k_ ∨ w.heap.size ≤ k_)) u9000_ x0_1) ∧ Aside0 (Kept w w' (fun k_ => P0_ k_)) ∧ Aside0 (Below w0.heap.size w0 w'))
 case atStart => exact ⟨(l0), (a1), (0), (by first | rfl | (simp; done) | (simp [*]; done)), (by first | rfl | (simp; done) | (simp [*]; done)), H', ⟨Nat.le_refl _⟩, ⟨kr_ HO0⟩, ⟨by repeat (first | (with_reducible first | exact HK.out | apply Kept.alloc | apply Kept.drewN | apply Kept.drew) | exact HK.out)⟩, ⟨bw_ HB⟩⟩
 case round =>
  clear H'
  try clear c1
  try clear p2
  obtain ⟨x0_1, x1_1, x5_1, rfl, rfl, HA, HK1, HO_0, HK, HB⟩ := hrel
  cases gk with
  | zero => exact absurd HA.out (by simp [laws_markStringS.l0])
  | succ k1 =>
       have H := HA.out
       clear HA
       simp only [laws_markStringS.l0] at H
       by_cases c3 : x5_1 < (x0_1.length : Int)
       {
       rw [if_pos c3] at H
       have c3b0 := decide_eq_true c3
       clear c3
       replace H := Option.bind_eq_some_iff.mp H
       obtain ⟨t582, A40, H⟩ := H
       have A4 := Aside0.mk A40
       clear A40
       by_cases c5 : 0 ≤ x5_1
       {
       rw [if_pos c5] at H
       have c5b0 := decide_eq_true c5
       clear c5
       obtain ⟨y583, hy583⟩ : ∃ y_ : List ByteArray, y_ = (x0_1.set (x5_1 : Int).toNat t582) := ⟨_, rfl⟩
       replace H : (laws_markStringS.l0 k1 y583 (wrap64 (x1_1 + 1)) (wrap64 (x5_1 + 1))) = some (r1, r2) := rH_ hy583 H
       have Ny583 := Aside0.mk hy583
       clear hy583
       have H' := Aside0.mk H
       clear H
       obtain ⟨Ao7, co7, eo7⟩ := Kd.R_slice HO_0.out
       subst eo7
       go_wp2_with (first | ((with_reducible refine gate_callee (f := 41) rfl ?_); refine gL_ (some 15) Tryz.func41 #[.int .i64 x1_1] ?_; (with_reducible refine (laws_markText.calls k1 x1_1 t582 _ A4.out).mono ?_); rintro e w8 ⟨rfl, hb⟩; refine ⟨_, rfl, ?_⟩; replace HO_0 := Aside0.mk (Kd.R_below (kr_ HO_0) hb); replace HK := Aside0.mk (Kept.below (S := (fun k_ => P0_ k_)) (by repeat (first | (with_reducible first | exact HK.out | apply Kept.alloc | apply Kept.drewN | apply Kept.drew) | exact HK.out)) hb); replace HB := Aside0.mk (below_step (bw_ HB) hb); clear hb; have p6 : 0 ≤ (x5_1 : Int) := dA_; have q6 : (x5_1 : Int) < ((x0_1.length : Int) : Int) := dA_; obtain ⟨go6, co6, eo6, gb6, gl6, cl6, HG6⟩ := Kd.R_form HO_0.out (by omega); (first | cases eo6 | (injection eo6 with ea_ en_ ec_; (first | subst ea_ | (injection ea_ with ea_; subst ea_)); subst ec_; clear en_)); have GB6 := Aside0.mk gb6; have GG6 := Aside0.mk HG6; clear gb6 gl6 HG6; have HMgo6 := Aside0.mk (show (P0_ go6 ∨ w.heap.size ≤ go6) from (HO_0.out.1 _ rfl)); obtain ⟨hx6_0, hf6_0⟩ := Kd.R_celln (⟨#[]⟩ : ByteArray) HO_0.out (x5_1 : Int) p6 q6; replace p6 := eq_true p6; replace q6 := eq_true q6; obtain ⟨hy9_, hz9_⟩ := Kd.R_celln (⟨#[]⟩ : ByteArray) HO_0.out (x5_1 : Int) (dA_) (dA_); have HP9 := Kd.R_putg HO_0.out (x5_1 : Int) t582) | ((with_reducible refine gate_store (t := 9) (p := 16) rfl ?_); refine store_event (t := 9) (p := 16) (v := ?vo_w10) (w1 := (w8.setCell ⟨go6, (x5_1 : Int).toNat, none⟩ (.string t582))) ?hg ?ho ?hn ?hr ?_; (case ho => rfl); (case hg => rfl); (case hn => rfl); (case hr => first | (go_simp; done) | (go_simp; rfl)); intro w10 hw; have hg : w8.grownBy w10 (some go6) := (by rw [hw]; exact HP9.2); have hp_ : Kd.R Kd.string 9 w10 w0.heap.size (fun k_ => (P0_ k_ ∨ w.heap.size ≤ k_)) (.slice (some ⟨go6, 0, none⟩) x0_1.length co7) y583 := (by rw [hw, Ny583.out]; exact HP9.1); clear HP9; replace HB := Aside0.mk ((by rw [hw]; exact below_set (HB.out) GB6.out : Below w0.heap.size w0 w10)); replace HK := Aside0.mk (Kept.of_grown (S := (fun k_ => P0_ k_)) hg (by repeat (first | (with_reducible first | exact HK.out | apply Kept.alloc | apply Kept.drewN | apply Kept.drew) | exact HK.out)) (fun k_ e_ => (HO_0.out.1 k_ e_))); replace HO_0 := Aside0.mk (hp_); clear hg hw hp_))
       go_roundg k1
       case measure => have := HK1.out; omega
       case rel => exact ⟨(y583), (wrap64 (x1_1 + 1)), (wrap64 (x5_1 + 1)), (by first | rfl | (simp; done) | (simp [*]; done)), (by first | rfl | (simp; done) | (simp [*]; done)), H', ⟨by have := HK1.out; omega⟩, ⟨kr_ HO_0⟩, ⟨by repeat (first | (with_reducible first | exact HK.out | apply Kept.alloc | apply Kept.drewN | apply Kept.drew) | exact HK.out)⟩, ⟨bw_ HB⟩⟩}
       {
       rw [if_neg c5] at H
       exact absurd H (by simp)}}
       {
       rw [if_neg c3] at H
       have c3b0 := decide_eq_false c3
       clear c3
       simp only [Option.some.injEq, Prod.mk.injEq] at H
       obtain ⟨rfl, rfl⟩ := H
       obtain ⟨Ao11, co11, eo11⟩ := Kd.R_slice HO_0.out
       subst eo11
       go_wp2
       go_ret
       exact ⟨eR_, kr_ HO_0, bw_ HB, by repeat (first | (with_reducible first | exact HK.out | apply Kept.alloc | apply Kept.drewN | apply Kept.drew) | exact HK.out)⟩
}
def laws_markEntryS.l0 : Nat → List (S57) → Int → Int → Option (Int × (List (S57)))
 | 0, _, _, _ => none
 | k + 1, x0, x1, x5 => if x5 < (x0.length : Int) then ((laws_markText.f k x1).bind fun t584 => (if 0 ≤ x5 then ((some (x0.set (x5 : Int).toNat (⟨t584, (rd_T57 x0 x5).f1, (rd_T57 x0 x5).f2, (rd_T57 x0 x5).f3⟩ : S57) : List (S57))).bind fun y585 => ((some (y585.set (x5 : Int).toNat (⟨(rd_T57 y585 x5).f0, wrap64 (x1 + 1), (rd_T57 y585 x5).f2, (rd_T57 y585 x5).f3⟩ : S57) : List (S57))).bind fun y586 => ((laws_markText.f k (wrap64 ((wrap64 (x1 + 1)) + 1))).bind fun t587 => ((some (y586.set (x5 : Int).toNat (⟨(rd_T57 y586 x5).f0, (rd_T57 y586 x5).f1, t587, (rd_T57 y586 x5).f3⟩ : S57) : List (S57))).bind fun y588 => (laws_markEntryS.l0 k (y588.set (x5 : Int).toNat (⟨(rd_T57 y588 x5).f0, (rd_T57 y588 x5).f1, (rd_T57 y588 x5).f2, ((Int.tmod (wrap64 ((wrap64 ((wrap64 (x1 + 1)) + 1)) + 1)) 3) == 0)⟩ : S57)) (wrap64 ((wrap64 ((wrap64 ((wrap64 (x1 + 1)) + 1)) + 1)) + 1)) (wrap64 (x5 + 1))))))) else (none))) else (some (x1, x0))
def laws_markEntryS.f (k : Nat) (l0 : List (S57)) (a1 : Int) : Option (Int × (List (S57))) := laws_markEntryS.l0 k l0 a1 0
theorem laws_markEntryS.calls (k : Nat) (P0_ : Nat → Prop) (u9000_ : Value) (l0 : List (S57)) (a1 : Int) (r1 : Int) (r2 : List (S57)) (w0 w : World) (hB : Below w0.heap.size w0 w) (ho0 : Kd.R k57 57 w w0.heap.size P0_ u9000_ l0) (h : laws_markEntryS.f k l0 a1 = some (r1, r2)) :
 Calls Tryz.prog 24 #[u9000_, .int .i64 a1] w fun e w' => e = .returned (.int .i64 r1) ∧ Kd.R k57 57 w' w0.heap.size (fun k_ => (P0_ k_ ∨ w.heap.size ≤ k_)) u9000_ r2 ∧ Below w0.heap.size w0 w' ∧ Kept w w' (fun k_ => P0_ k_) := by
 have HO0 := Aside0.mk (show Kd.R k57 57 w w0.heap.size (fun k_ => (P0_ k_ ∨ w.heap.size ≤ k_)) u9000_ l0 from Kd.R_mono ho0 (fun k_ hk => (.inl hk)))
 have HK := Aside0.mk (Kept.refl w (fun k_ => P0_ k_))
 have HW0 := Aside0.mk hB.size
 have HB := Aside0.mk hB
 clear hB
 have H : (laws_markEntryS.l0 k l0 a1 0) = some (r1, r2) := h
 clear h
 have H' := Aside0.mk H
 clear H
 go_enter Tryz.func24, Tryz.ntmps24
 go_wp2
 go_loopg [1, 5] k (fun kq v1 v5 w' => ∃ (x0_1 : List (S57)) (x1_1 : Int) (x5_1 : Int), v1 = .int .i64 x1_1 ∧ v5 = .int .i64 x5_1 ∧ Aside0 (laws_markEntryS.l0 kq x0_1 x1_1 x5_1 = some (r1, r2)) ∧ Aside0 (kq ≤ k) ∧ Aside0 (Kd.R k57 57 w' w0.heap.size (fun k_ => (P0_ k_ ∨ w.heap.size ≤ k_)) u9000_ x0_1) ∧ Aside0 (Kept w w' (fun k_ => P0_ k_)) ∧ Aside0 (Below w0.heap.size w0 w'))
 case atStart => exact ⟨(l0), (a1), (0), (by first | rfl | (simp; done) | (simp [*]; done)), (by first | rfl | (simp; done) | (simp [*]; done)), H', ⟨Nat.le_refl _⟩, ⟨kr_ HO0⟩, ⟨by repeat (first | (with_reducible first | exact HK.out | apply Kept.alloc | apply Kept.drewN | apply Kept.drew) | exact HK.out)⟩, ⟨bw_ HB⟩⟩
 case round =>
  clear H'
  try clear c2
  try clear p2
  obtain ⟨x0_1, x1_1, x5_1, rfl, rfl, HA, HK1, HO_0, HK, HB⟩ := hrel
  cases gk with
  | zero => exact absurd HA.out (by simp [laws_markEntryS.l0])
  | succ k1 =>
       have H := HA.out
       clear HA
       simp only [laws_markEntryS.l0] at H
       by_cases c3 : x5_1 < (x0_1.length : Int)
       {
       rw [if_pos c3] at H
       have c3b0 := decide_eq_true c3
       clear c3
       replace H := Option.bind_eq_some_iff.mp H
       obtain ⟨t584, A40, H⟩ := H
       have A4 := Aside0.mk A40
       clear A40
       by_cases c5 : 0 ≤ x5_1
       {
       rw [if_pos c5] at H
       have c5b0 := decide_eq_true c5
       clear c5
       obtain ⟨y585, hy585⟩ : ∃ y_ : List (S57), y_ = (x0_1.set (x5_1 : Int).toNat (⟨t584, (rd_T57 x0_1 x5_1).f1, (rd_T57 x0_1 x5_1).f2, (rd_T57 x0_1 x5_1).f3⟩ : S57)) := ⟨_, rfl⟩
       replace H : ((some (y585.set (x5_1 : Int).toNat (⟨(rd_T57 y585 x5_1).f0, wrap64 (x1_1 + 1), (rd_T57 y585 x5_1).f2, (rd_T57 y585 x5_1).f3⟩ : S57) : List (S57))).bind fun y586 => ((laws_markText.f k1 (wrap64 ((wrap64 (x1_1 + 1)) + 1))).bind fun t587 => ((some (y586.set (x5_1 : Int).toNat (⟨(rd_T57 y586 x5_1).f0, (rd_T57 y586 x5_1).f1, t587, (rd_T57 y586 x5_1).f3⟩ : S57) : List (S57))).bind fun y588 => (laws_markEntryS.l0 k1 (y588.set (x5_1 : Int).toNat (⟨(rd_T57 y588 x5_1).f0, (rd_T57 y588 x5_1).f1, (rd_T57 y588 x5_1).f2, ((Int.tmod (wrap64 ((wrap64 ((wrap64 (x1_1 + 1)) + 1)) + 1)) 3) == 0)⟩ : S57)) (wrap64 ((wrap64 ((wrap64 ((wrap64 (x1_1 + 1)) + 1)) + 1)) + 1)) (wrap64 (x5_1 + 1)))))) = some (r1, r2) := rH_ hy585 H
       have Ny585 := Aside0.mk hy585
       clear hy585
       obtain ⟨y586, hy586⟩ : ∃ y_ : List (S57), y_ = (y585.set (x5_1 : Int).toNat (⟨(rd_T57 y585 x5_1).f0, wrap64 (x1_1 + 1), (rd_T57 y585 x5_1).f2, (rd_T57 y585 x5_1).f3⟩ : S57)) := ⟨_, rfl⟩
       replace H : ((laws_markText.f k1 (wrap64 ((wrap64 (x1_1 + 1)) + 1))).bind fun t587 => ((some (y586.set (x5_1 : Int).toNat (⟨(rd_T57 y586 x5_1).f0, (rd_T57 y586 x5_1).f1, t587, (rd_T57 y586 x5_1).f3⟩ : S57) : List (S57))).bind fun y588 => (laws_markEntryS.l0 k1 (y588.set (x5_1 : Int).toNat (⟨(rd_T57 y588 x5_1).f0, (rd_T57 y588 x5_1).f1, (rd_T57 y588 x5_1).f2, ((Int.tmod (wrap64 ((wrap64 ((wrap64 (x1_1 + 1)) + 1)) + 1)) 3) == 0)⟩ : S57)) (wrap64 ((wrap64 ((wrap64 ((wrap64 (x1_1 + 1)) + 1)) + 1)) + 1)) (wrap64 (x5_1 + 1))))) = some (r1, r2) := rH_ hy586 H
       have Ny586 := Aside0.mk hy586
       clear hy586
       replace H := Option.bind_eq_some_iff.mp H
       obtain ⟨t587, A80, H⟩ := H
       have A8 := Aside0.mk A80
       clear A80
       obtain ⟨y588, hy588⟩ : ∃ y_ : List (S57), y_ = (y586.set (x5_1 : Int).toNat (⟨(rd_T57 y586 x5_1).f0, (rd_T57 y586 x5_1).f1, t587, (rd_T57 y586 x5_1).f3⟩ : S57)) := ⟨_, rfl⟩
       replace H : (laws_markEntryS.l0 k1 (y588.set (x5_1 : Int).toNat (⟨(rd_T57 y588 x5_1).f0, (rd_T57 y588 x5_1).f1, (rd_T57 y588 x5_1).f2, ((Int.tmod (wrap64 ((wrap64 ((wrap64 (x1_1 + 1)) + 1)) + 1)) 3) == 0)⟩ : S57)) (wrap64 ((wrap64 ((wrap64 ((wrap64 (x1_1 + 1)) + 1)) + 1)) + 1)) (wrap64 (x5_1 + 1))) = some (r1, r2) := rH_ hy588 H
       have Ny588 := Aside0.mk hy588
       clear hy588
       obtain ⟨y589, hy589⟩ : ∃ y_ : List (S57), y_ = (y588.set (x5_1 : Int).toNat (⟨(rd_T57 y588 x5_1).f0, (rd_T57 y588 x5_1).f1, (rd_T57 y588 x5_1).f2, ((Int.tmod (wrap64 ((wrap64 ((wrap64 (x1_1 + 1)) + 1)) + 1)) 3) == 0)⟩ : S57)) := ⟨_, rfl⟩
       replace H : (laws_markEntryS.l0 k1 y589 (wrap64 ((wrap64 ((wrap64 ((wrap64 (x1_1 + 1)) + 1)) + 1)) + 1)) (wrap64 (x5_1 + 1))) = some (r1, r2) := rH_ hy589 H
       have Ny589 := Aside0.mk hy589
       clear hy589
       have H' := Aside0.mk H
       clear H
       obtain ⟨Ao11, co11, eo11⟩ := Kd.R_slice HO_0.out
       subst eo11
       go_wp2_with (first | ((with_reducible refine gate_callee (f := 41) rfl ?_); refine gL_ (some 15) Tryz.func41 #[.int .i64 x1_1] ?_; (with_reducible refine (laws_markText.calls k1 x1_1 t584 _ A4.out).mono ?_); rintro e w12 ⟨rfl, hb⟩; refine ⟨_, rfl, ?_⟩; replace HO_0 := Aside0.mk (Kd.R_below (kr_ HO_0) hb); replace HK := Aside0.mk (Kept.below (S := (fun k_ => P0_ k_)) (by repeat (first | (with_reducible first | exact HK.out | apply Kept.alloc | apply Kept.drewN | apply Kept.drew) | exact HK.out)) hb); replace HB := Aside0.mk (below_step (bw_ HB) hb); clear hb; have p6 : 0 ≤ (x5_1 : Int) := dA_; have q6 : (x5_1 : Int) < ((x0_1.length : Int) : Int) := dA_; obtain ⟨go6, co6, eo6, gb6, gl6, cl6, HG6⟩ := Kd.R_form HO_0.out (by omega); (first | cases eo6 | (injection eo6 with ea_ en_ ec_; (first | subst ea_ | (injection ea_ with ea_; subst ea_)); subst ec_; clear en_)); have GB6 := Aside0.mk gb6; have GG6 := Aside0.mk HG6; clear gb6 gl6 HG6; have HMgo6 := Aside0.mk (show (P0_ go6 ∨ w.heap.size ≤ go6) from (HO_0.out.1 _ rfl)); obtain ⟨ce6, hcl6, hM6, hcc6, hfr6⟩ := Kd.R_elem HO_0.out z57 (x5_1 : Int) p6 q6; obtain rfl := k57_openM hM6; have hx6_0 : w12.cell? ⟨go6, (x5_1 : Int).toNat * 4, none⟩ = some (.string ((rd_T57 x0_1 x5_1).f0)) := hcc6 0 _ rfl; have hx6_1 : w12.cell? ⟨go6, (x5_1 : Int).toNat * 4 + 1, none⟩ = some (.int .i64 ((rd_T57 x0_1 x5_1).f1)) := hcc6 1 _ rfl; have hx6_2 : w12.cell? ⟨go6, (x5_1 : Int).toNat * 4 + 2, none⟩ = some (.string ((rd_T57 x0_1 x5_1).f2)) := hcc6 2 _ rfl; have hx6_3 : w12.cell? ⟨go6, (x5_1 : Int).toNat * 4 + 3, none⟩ = some (.bool ((rd_T57 x0_1 x5_1).f3)) := hcc6 3 _ rfl; have hf6_0 : w12.frozen? ⟨go6, (x5_1 : Int).toNat * 4, none⟩ = false := hfr6 0; have hf6_1 : w12.frozen? ⟨go6, (x5_1 : Int).toNat * 4 + 1, none⟩ = false := hfr6 1; have hf6_2 : w12.frozen? ⟨go6, (x5_1 : Int).toNat * 4 + 2, none⟩ = false := hfr6 2; have hf6_3 : w12.frozen? ⟨go6, (x5_1 : Int).toNat * 4 + 3, none⟩ = false := hfr6 3; clear hcl6 hcc6 hfr6; (try clear hM6); replace p6 := eq_true p6; replace q6 := eq_true q6; have HX13 := Aside0.mk (show Kd.R k57 57 w12 w0.heap.size (fun k_ => (P0_ k_ ∨ w.heap.size ≤ k_)) (.slice (some ⟨go6, 0, none⟩) x0_1.length co11) x0_1 from (kr_ HO_0)); obtain ⟨ce13, hcl13, hM13, hcc13, hfr13⟩ := Kd.R_elem HX13.out z57 (x5_1 : Int) (dA_) (by have h_ : (x5_1 : Int) < ((x0_1.length : Int) : Int) := dA_; first | exact h_ | (have e_ := (Kd.R_reads' HO_0.out).1; omega) | simpa using h_); obtain rfl := k57_openM hM13; have HP13 := Kd.R_seg HX13.out (x5_1 : Int) (dA_) (by have h_ : (x5_1 : Int) < ((x0_1.length : Int) : Int) := dA_; first | exact h_ | (have e_ := (Kd.R_reads' HO_0.out).1; omega) | simpa using h_) (seg := [.string t584]) (j := 0) hcl13 hcc13 (show 1 ≤ 4 from by decide) (x' := (⟨t584, (rd_T57 x0_1 x5_1).f1, (rd_T57 x0_1 x5_1).f2, (rd_T57 x0_1 x5_1).f3⟩ : S57)) (k57_mkM _ _ _ (⟨t584, (rd_T57 x0_1 x5_1).f1, (rd_T57 x0_1 x5_1).f2, (rd_T57 x0_1 x5_1).f3⟩ : S57) ) (fun _ hk => hk); have hx13_0 := hcc13 0 _ rfl; (try simp only [show (k57).sz = 4 from rfl, Nat.mul_one, Nat.add_zero] at hx13_0); have hf13_0 := hfr13 0; (try simp only [show (k57).sz = 4 from rfl, Nat.mul_one, Nat.add_zero] at hf13_0); clear hcl13 hcc13 hfr13; (try clear hM13)) | ((with_reducible refine gate_store (t := 9) (p := 17) rfl ?_); refine store_event (t := 9) (p := 17) (v := ?vo_w14) (w1 := (w12.setCell ⟨go6, (x5_1 : Int).toNat * 4, none⟩ (.string t584))) ?hg ?ho ?hn ?hr ?_; (case ho => rfl); (case hg => rfl); (case hn => rfl); (case hr => first | (go_simp; done) | (go_simp; rfl)); intro w14 hw; have hg : w12.grownBy w14 (some go6) := (by rw [hw]; exact HP13.2); have hp_ : Kd.R k57 57 w14 w0.heap.size (fun k_ => (P0_ k_ ∨ w.heap.size ≤ k_)) (.slice (some ⟨go6, 0, none⟩) x0_1.length co11) y585 := (by rw [hw, Ny585.out]; exact HP13.1); clear HP13; replace HB := Aside0.mk ((by rw [hw]; exact below_set (HB.out) GB6.out : Below w0.heap.size w0 w14)); replace HK := Aside0.mk (Kept.of_grown (S := (fun k_ => P0_ k_)) hg (by repeat (first | (with_reducible first | exact HK.out | apply Kept.alloc | apply Kept.drewN | apply Kept.drew) | exact HK.out)) (fun k_ e_ => (HO_0.out.1 k_ e_))); replace HO_0 := Aside0.mk (hp_); clear hg hw hp_; have p7 : 0 ≤ (x5_1 : Int) := dA_; have q7 : (x5_1 : Int) < ((x0_1.length : Int) : Int) := dA_; obtain ⟨ce7, hcl7, hM7, hcc7, hfr7⟩ := Kd.R_elem HO_0.out z57 (x5_1 : Int) p7 q7; obtain rfl := k57_openM hM7; have hx7_0 : w14.cell? ⟨go6, (x5_1 : Int).toNat * 4, none⟩ = some (.string ((rd_T57 y585 x5_1).f0)) := hcc7 0 _ rfl; have hx7_1 : w14.cell? ⟨go6, (x5_1 : Int).toNat * 4 + 1, none⟩ = some (.int .i64 ((rd_T57 y585 x5_1).f1)) := hcc7 1 _ rfl; have hx7_2 : w14.cell? ⟨go6, (x5_1 : Int).toNat * 4 + 2, none⟩ = some (.string ((rd_T57 y585 x5_1).f2)) := hcc7 2 _ rfl; have hx7_3 : w14.cell? ⟨go6, (x5_1 : Int).toNat * 4 + 3, none⟩ = some (.bool ((rd_T57 y585 x5_1).f3)) := hcc7 3 _ rfl; have hf7_0 : w14.frozen? ⟨go6, (x5_1 : Int).toNat * 4, none⟩ = false := hfr7 0; have hf7_1 : w14.frozen? ⟨go6, (x5_1 : Int).toNat * 4 + 1, none⟩ = false := hfr7 1; have hf7_2 : w14.frozen? ⟨go6, (x5_1 : Int).toNat * 4 + 2, none⟩ = false := hfr7 2; have hf7_3 : w14.frozen? ⟨go6, (x5_1 : Int).toNat * 4 + 3, none⟩ = false := hfr7 3; clear hcl7 hcc7 hfr7; (try clear hM7); replace p7 := eq_true p7; replace q7 := eq_true q7; have HX15 := Aside0.mk (show Kd.R k57 57 w14 w0.heap.size (fun k_ => (P0_ k_ ∨ w.heap.size ≤ k_)) (.slice (some ⟨go6, 0, none⟩) x0_1.length co11) y585 from (kr_ HO_0)); obtain ⟨ce15, hcl15, hM15, hcc15, hfr15⟩ := Kd.R_elem HX15.out z57 (x5_1 : Int) (dA_) (by have h_ : (x5_1 : Int) < ((x0_1.length : Int) : Int) := dA_; first | exact h_ | (have e_ := (Kd.R_reads' HO_0.out).1; omega) | simpa using h_); obtain rfl := k57_openM hM15; have HP15 := Kd.R_seg HX15.out (x5_1 : Int) (dA_) (by have h_ : (x5_1 : Int) < ((x0_1.length : Int) : Int) := dA_; first | exact h_ | (have e_ := (Kd.R_reads' HO_0.out).1; omega) | simpa using h_) (seg := [.int .i64 (wrap64 (x1_1 + 1))]) (j := 1) hcl15 hcc15 (show 2 ≤ 4 from by decide) (x' := (⟨(rd_T57 y585 x5_1).f0, wrap64 (x1_1 + 1), (rd_T57 y585 x5_1).f2, (rd_T57 y585 x5_1).f3⟩ : S57)) (k57_mkM _ _ _ (⟨(rd_T57 y585 x5_1).f0, wrap64 (x1_1 + 1), (rd_T57 y585 x5_1).f2, (rd_T57 y585 x5_1).f3⟩ : S57) ) (fun _ hk => hk); have hx15_1 := hcc15 1 _ rfl; (try simp only [show (k57).sz = 4 from rfl, Nat.mul_one, Nat.add_zero] at hx15_1); have hf15_1 := hfr15 1; (try simp only [show (k57).sz = 4 from rfl, Nat.mul_one, Nat.add_zero] at hf15_1); clear hcl15 hcc15 hfr15; (try clear hM15)) | ((with_reducible refine gate_store (t := 2) (p := 24) rfl ?_); refine store_event (t := 2) (p := 24) (v := ?vo_w16) (w1 := (w14.setCell ⟨go6, (x5_1 : Int).toNat * 4 + 1, none⟩ (.int .i64 (wrap64 (x1_1 + 1))))) ?hg ?ho ?hn ?hr ?_; (case ho => rfl); (case hg => rfl); (case hn => rfl); (case hr => first | (go_simp; done) | (go_simp; rfl)); intro w16 hw; have hg : w14.grownBy w16 (some go6) := (by rw [hw]; exact HP15.2); have hp_ : Kd.R k57 57 w16 w0.heap.size (fun k_ => (P0_ k_ ∨ w.heap.size ≤ k_)) (.slice (some ⟨go6, 0, none⟩) x0_1.length co11) y586 := (by rw [hw, Ny586.out]; exact HP15.1); clear HP15; replace HB := Aside0.mk ((by rw [hw]; exact below_set (HB.out) GB6.out : Below w0.heap.size w0 w16)); replace HK := Aside0.mk (Kept.of_grown (S := (fun k_ => P0_ k_)) hg (by repeat (first | (with_reducible first | exact HK.out | apply Kept.alloc | apply Kept.drewN | apply Kept.drew) | exact HK.out)) (fun k_ e_ => (HO_0.out.1 k_ e_))); replace HO_0 := Aside0.mk (hp_); clear hg hw hp_) | ((with_reducible refine gate_callee (f := 41) rfl ?_); refine gL_ (some 30) Tryz.func41 #[.int .i64 (wrap64 ((wrap64 (x1_1 + 1)) + 1))] ?_; (with_reducible refine (laws_markText.calls k1 (wrap64 ((wrap64 (x1_1 + 1)) + 1)) t587 _ A8.out).mono ?_); rintro e w17 ⟨rfl, hb⟩; refine ⟨_, rfl, ?_⟩; replace HO_0 := Aside0.mk (Kd.R_below (kr_ HO_0) hb); replace HK := Aside0.mk (Kept.below (S := (fun k_ => P0_ k_)) (by repeat (first | (with_reducible first | exact HK.out | apply Kept.alloc | apply Kept.drewN | apply Kept.drew) | exact HK.out)) hb); replace HB := Aside0.mk (below_step (bw_ HB) hb); clear hb; have p9 : 0 ≤ (x5_1 : Int) := dA_; have q9 : (x5_1 : Int) < ((x0_1.length : Int) : Int) := dA_; obtain ⟨ce9, hcl9, hM9, hcc9, hfr9⟩ := Kd.R_elem HO_0.out z57 (x5_1 : Int) p9 q9; obtain rfl := k57_openM hM9; have hx9_0 : w17.cell? ⟨go6, (x5_1 : Int).toNat * 4, none⟩ = some (.string ((rd_T57 y586 x5_1).f0)) := hcc9 0 _ rfl; have hx9_1 : w17.cell? ⟨go6, (x5_1 : Int).toNat * 4 + 1, none⟩ = some (.int .i64 ((rd_T57 y586 x5_1).f1)) := hcc9 1 _ rfl; have hx9_2 : w17.cell? ⟨go6, (x5_1 : Int).toNat * 4 + 2, none⟩ = some (.string ((rd_T57 y586 x5_1).f2)) := hcc9 2 _ rfl; have hx9_3 : w17.cell? ⟨go6, (x5_1 : Int).toNat * 4 + 3, none⟩ = some (.bool ((rd_T57 y586 x5_1).f3)) := hcc9 3 _ rfl; have hf9_0 : w17.frozen? ⟨go6, (x5_1 : Int).toNat * 4, none⟩ = false := hfr9 0; have hf9_1 : w17.frozen? ⟨go6, (x5_1 : Int).toNat * 4 + 1, none⟩ = false := hfr9 1; have hf9_2 : w17.frozen? ⟨go6, (x5_1 : Int).toNat * 4 + 2, none⟩ = false := hfr9 2; have hf9_3 : w17.frozen? ⟨go6, (x5_1 : Int).toNat * 4 + 3, none⟩ = false := hfr9 3; clear hcl9 hcc9 hfr9; (try clear hM9); replace p9 := eq_true p9; replace q9 := eq_true q9; have HX18 := Aside0.mk (show Kd.R k57 57 w17 w0.heap.size (fun k_ => (P0_ k_ ∨ w.heap.size ≤ k_)) (.slice (some ⟨go6, 0, none⟩) x0_1.length co11) y586 from (kr_ HO_0)); obtain ⟨ce18, hcl18, hM18, hcc18, hfr18⟩ := Kd.R_elem HX18.out z57 (x5_1 : Int) (dA_) (by have h_ : (x5_1 : Int) < ((x0_1.length : Int) : Int) := dA_; first | exact h_ | (have e_ := (Kd.R_reads' HO_0.out).1; omega) | simpa using h_); obtain rfl := k57_openM hM18; have HP18 := Kd.R_seg HX18.out (x5_1 : Int) (dA_) (by have h_ : (x5_1 : Int) < ((x0_1.length : Int) : Int) := dA_; first | exact h_ | (have e_ := (Kd.R_reads' HO_0.out).1; omega) | simpa using h_) (seg := [.string t587]) (j := 2) hcl18 hcc18 (show 3 ≤ 4 from by decide) (x' := (⟨(rd_T57 y586 x5_1).f0, (rd_T57 y586 x5_1).f1, t587, (rd_T57 y586 x5_1).f3⟩ : S57)) (k57_mkM _ _ _ (⟨(rd_T57 y586 x5_1).f0, (rd_T57 y586 x5_1).f1, t587, (rd_T57 y586 x5_1).f3⟩ : S57) ) (fun _ hk => hk); have hx18_2 := hcc18 2 _ rfl; (try simp only [show (k57).sz = 4 from rfl, Nat.mul_one, Nat.add_zero] at hx18_2); have hf18_2 := hfr18 2; (try simp only [show (k57).sz = 4 from rfl, Nat.mul_one, Nat.add_zero] at hf18_2); clear hcl18 hcc18 hfr18; (try clear hM18)) | ((with_reducible refine gate_store (t := 9) (p := 32) rfl ?_); refine store_event (t := 9) (p := 32) (v := ?vo_w19) (w1 := (w17.setCell ⟨go6, (x5_1 : Int).toNat * 4 + 2, none⟩ (.string t587))) ?hg ?ho ?hn ?hr ?_; (case ho => rfl); (case hg => rfl); (case hn => rfl); (case hr => first | (go_simp; done) | (go_simp; rfl)); intro w19 hw; have hg : w17.grownBy w19 (some go6) := (by rw [hw]; exact HP18.2); have hp_ : Kd.R k57 57 w19 w0.heap.size (fun k_ => (P0_ k_ ∨ w.heap.size ≤ k_)) (.slice (some ⟨go6, 0, none⟩) x0_1.length co11) y588 := (by rw [hw, Ny588.out]; exact HP18.1); clear HP18; replace HB := Aside0.mk ((by rw [hw]; exact below_set (HB.out) GB6.out : Below w0.heap.size w0 w19)); replace HK := Aside0.mk (Kept.of_grown (S := (fun k_ => P0_ k_)) hg (by repeat (first | (with_reducible first | exact HK.out | apply Kept.alloc | apply Kept.drewN | apply Kept.drew) | exact HK.out)) (fun k_ e_ => (HO_0.out.1 k_ e_))); replace HO_0 := Aside0.mk (hp_); clear hg hw hp_; have p10 : 0 ≤ (x5_1 : Int) := dA_; have q10 : (x5_1 : Int) < ((x0_1.length : Int) : Int) := dA_; obtain ⟨ce10, hcl10, hM10, hcc10, hfr10⟩ := Kd.R_elem HO_0.out z57 (x5_1 : Int) p10 q10; obtain rfl := k57_openM hM10; have hx10_0 : w19.cell? ⟨go6, (x5_1 : Int).toNat * 4, none⟩ = some (.string ((rd_T57 y588 x5_1).f0)) := hcc10 0 _ rfl; have hx10_1 : w19.cell? ⟨go6, (x5_1 : Int).toNat * 4 + 1, none⟩ = some (.int .i64 ((rd_T57 y588 x5_1).f1)) := hcc10 1 _ rfl; have hx10_2 : w19.cell? ⟨go6, (x5_1 : Int).toNat * 4 + 2, none⟩ = some (.string ((rd_T57 y588 x5_1).f2)) := hcc10 2 _ rfl; have hx10_3 : w19.cell? ⟨go6, (x5_1 : Int).toNat * 4 + 3, none⟩ = some (.bool ((rd_T57 y588 x5_1).f3)) := hcc10 3 _ rfl; have hf10_0 : w19.frozen? ⟨go6, (x5_1 : Int).toNat * 4, none⟩ = false := hfr10 0; have hf10_1 : w19.frozen? ⟨go6, (x5_1 : Int).toNat * 4 + 1, none⟩ = false := hfr10 1; have hf10_2 : w19.frozen? ⟨go6, (x5_1 : Int).toNat * 4 + 2, none⟩ = false := hfr10 2; have hf10_3 : w19.frozen? ⟨go6, (x5_1 : Int).toNat * 4 + 3, none⟩ = false := hfr10 3; clear hcl10 hcc10 hfr10; (try clear hM10); replace p10 := eq_true p10; replace q10 := eq_true q10; have HX20 := Aside0.mk (show Kd.R k57 57 w19 w0.heap.size (fun k_ => (P0_ k_ ∨ w.heap.size ≤ k_)) (.slice (some ⟨go6, 0, none⟩) x0_1.length co11) y588 from (kr_ HO_0)); obtain ⟨ce20, hcl20, hM20, hcc20, hfr20⟩ := Kd.R_elem HX20.out z57 (x5_1 : Int) (dA_) (by have h_ : (x5_1 : Int) < ((x0_1.length : Int) : Int) := dA_; first | exact h_ | (have e_ := (Kd.R_reads' HO_0.out).1; omega) | simpa using h_); obtain rfl := k57_openM hM20; have HP20 := Kd.R_seg HX20.out (x5_1 : Int) (dA_) (by have h_ : (x5_1 : Int) < ((x0_1.length : Int) : Int) := dA_; first | exact h_ | (have e_ := (Kd.R_reads' HO_0.out).1; omega) | simpa using h_) (seg := [.bool ((Int.tmod (wrap64 ((wrap64 ((wrap64 (x1_1 + 1)) + 1)) + 1)) 3) == 0)]) (j := 3) hcl20 hcc20 (show 4 ≤ 4 from by decide) (x' := (⟨(rd_T57 y588 x5_1).f0, (rd_T57 y588 x5_1).f1, (rd_T57 y588 x5_1).f2, ((Int.tmod (wrap64 ((wrap64 ((wrap64 (x1_1 + 1)) + 1)) + 1)) 3) == 0)⟩ : S57)) (k57_mkM _ _ _ (⟨(rd_T57 y588 x5_1).f0, (rd_T57 y588 x5_1).f1, (rd_T57 y588 x5_1).f2, ((Int.tmod (wrap64 ((wrap64 ((wrap64 (x1_1 + 1)) + 1)) + 1)) 3) == 0)⟩ : S57) ) (fun _ hk => hk); have hx20_3 := hcc20 3 _ rfl; (try simp only [show (k57).sz = 4 from rfl, Nat.mul_one, Nat.add_zero] at hx20_3); have hf20_3 := hfr20 3; (try simp only [show (k57).sz = 4 from rfl, Nat.mul_one, Nat.add_zero] at hf20_3); clear hcl20 hcc20 hfr20; (try clear hM20)) | ((with_reducible refine gate_store (t := 4) (p := 41) rfl ?_); refine store_event (t := 4) (p := 41) (v := ?vo_w21) (w1 := (w19.setCell ⟨go6, (x5_1 : Int).toNat * 4 + 3, none⟩ (.bool ((Int.tmod (wrap64 ((wrap64 ((wrap64 (x1_1 + 1)) + 1)) + 1)) 3) == 0)))) ?hg ?ho ?hn ?hr ?_; (case ho => rfl); (case hg => rfl); (case hn => rfl); (case hr => first | (go_simp; done) | (go_simp; rfl)); intro w21 hw; have hg : w19.grownBy w21 (some go6) := (by rw [hw]; exact HP20.2); have hp_ : Kd.R k57 57 w21 w0.heap.size (fun k_ => (P0_ k_ ∨ w.heap.size ≤ k_)) (.slice (some ⟨go6, 0, none⟩) x0_1.length co11) y589 := (by rw [hw, Ny589.out]; exact HP20.1); clear HP20; replace HB := Aside0.mk ((by rw [hw]; exact below_set (HB.out) GB6.out : Below w0.heap.size w0 w21)); replace HK := Aside0.mk (Kept.of_grown (S := (fun k_ => P0_ k_)) hg (by repeat (first | (with_reducible first | exact HK.out | apply Kept.alloc | apply Kept.drewN | apply Kept.drew) | exact HK.out)) (fun k_ e_ => (HO_0.out.1 k_ e_))); replace HO_0 := Aside0.mk (hp_); clear hg hw hp_))
       go_roundg k1
       case measure => have := HK1.out; omega
       case rel => exact ⟨(y589), (wrap64 ((wrap64 ((wrap64 ((wrap64 (x1_1 + 1)) + 1)) + 1)) + 1)), (wrap64 (x5_1 + 1)), (by first | rfl | (simp; done) | (simp [*]; done)), (by first | rfl | (simp; done) | (simp [*]; done)), H', ⟨by have := HK1.out; omega⟩, ⟨kr_ HO_0⟩, ⟨by repeat (first | (with_reducible first | exact HK.out | apply Kept.alloc | apply Kept.drewN | apply Kept.drew) | exact HK.out)⟩, ⟨bw_ HB⟩⟩}
       {
       rw [if_neg c5] at H
       exact absurd H (by simp)}}
       {
       rw [if_neg c3] at H
       have c3b0 := decide_eq_false c3
       clear c3
       simp only [Option.some.injEq, Prod.mk.injEq] at H
       obtain ⟨rfl, rfl⟩ := H
       obtain ⟨Ao22, co22, eo22⟩ := Kd.R_slice HO_0.out
       subst eo22
       go_wp2
       go_ret
       exact ⟨eR_, kr_ HO_0, bw_ HB, by repeat (first | (with_reducible first | exact HK.out | apply Kept.alloc | apply Kept.drewN | apply Kept.drew) | exact HK.out)⟩
}
def laws_markItemS.l0 : Nat → List S55 → Int → Int → Option (Int × List S55)
 | 0, _, _, _ => none
 | k + 1, x0, x1, x5 => if x5 < (x0.length : Int) then (if 0 ≤ x5 then ((laws_markText.f k x1).bind fun t0 => (laws_markText.f k (wrap64 (x1 + 1))).bind fun t1 =>
      (laws_markStringS.f k (rd_T55 x0 x5).f2 (wrap64 (wrap64 (x1 + 1) + 1))).bind fun b2 => (laws_markText.f k b2.1).bind fun t3 => (laws_markEntryS.f k (rd_T55 x0 x5).f4 (wrap64 (b2.1 + 1))).bind fun b4 =>
       laws_markItemS.l0 k (x0.set x5.toNat ⟨t0, t1, b2.2, t3, b4.2⟩) b4.1 (wrap64 (x5 + 1))) else none) else some (x1, x0)
def laws_markItemS.f (k : Nat) (l0 : List S55) (a1 : Int) : Option (Int × List S55) := laws_markItemS.l0 k l0 a1 0
theorem itemT_rd (l : List S55) (e : S55) (i : Int) (h : i.toNat < l.length) : (l.set i.toNat e).getD i.toNat z55 = e := by
 simp [List.getD_eq_getElem?_getD, List.getElem?_set_self h]
section
variable {W : World} {base g cap : Nat} {ok : Nat → Prop} {l : List S55} {e : S55} {i : Int}
theorem itemT_elem (HS : Kd.S k55 55 W base ok (.slice (some ⟨g, 0, none⟩) l.length cap) (l.set i.toNat e)) (h0 : 0 ≤ i) (h1 : i < (l.length : Int)) :
 ∃ (oki : Nat → Prop) (v2 v4 : Value), (W.cell? ⟨g, i.toNat * 5, none⟩ = some (.string e.f0) ∧ W.cell? ⟨g, i.toNat * 5 + 1, none⟩ = some (.string e.f1) ∧ W.cell? ⟨g, i.toNat * 5 + 2, none⟩ = some v2 ∧ W.cell? ⟨g, i.toNat * 5 + 3, none⟩ = some (.string e.f3) ∧ W.cell? ⟨g, i.toNat * 5 + 4, none⟩ = some v4) ∧
  (∀ j, W.frozen? ⟨g, i.toNat * 5 + j, none⟩ = false) ∧ Kd.R Kd.string 9 W base oki v2 e.f2 ∧ Kd.R k57 57 W base oki v4 e.f4 ∧ (∀ k, oki k → ok k ∧ k ≠ g) ∧
  Kd.H k55 55 W base ok (.slice (some ⟨g, 0, none⟩) l.length cap) (l.set i.toNat e) i oki [.string e.f0, .string e.f1, v2, .string e.f3, v4] := by
 obtain ⟨oki, c, hcl, hM, hcc, hfr, hoki, hH⟩ := Kd.S_elem HS z55 i h0 h1
 rw [itemT_rd l e i (by omega)] at hM
 obtain ⟨v2, v4, rfl, g2, g4⟩ := k55_openM hM
 exact ⟨oki, v2, v4, ⟨hcc 0 _ rfl, hcc 1 _ rfl, hcc 2 _ rfl, hcc 3 _ rfl, hcc 4 _ rfl⟩, hfr, g2, g4, hoki, hH⟩
theorem itemT_put (HS : Kd.S k55 55 W base ok (.slice (some ⟨g, 0, none⟩) l.length cap) (l.set i.toNat e)) (h0 : 0 ≤ i) (h1 : i < (l.length : Int)) (j : Nat) (s : ByteArray) (e' : S55)
 (hx : (j = 0 ∧ e' = ⟨s, e.f1, e.f2, e.f3, e.f4⟩) ∨ (j = 1 ∧ e' = ⟨e.f0, s, e.f2, e.f3, e.f4⟩) ∨ (j = 3 ∧ e' = ⟨e.f0, e.f1, e.f2, s, e.f4⟩)) :
 Kd.S k55 55 (W.setCell ⟨g, i.toNat * 5 + j, none⟩ (.string s)) base ok (.slice (some ⟨g, 0, none⟩) l.length cap) (l.set i.toNat e') ∧ W.grownBy (W.setCell ⟨g, i.toNat * 5 + j, none⟩ (.string s)) (some g) := by
 have HX : Kd.S k55 55 W base (fun k => ok k ∧ ¬ (fun _ => False) k) (.slice (some ⟨g, 0, none⟩) l.length cap) (l.set i.toNat e) := Kd.S_mono HS (fun k hk => ⟨hk, fun h => h⟩)
 obtain ⟨oki, v2, v4, _, _, g2, g4, hoki, hH⟩ := itemT_elem HX h0 h1
 have e3 : (l.set i.toNat e).set i.toNat e' = l.set i.toNat e' := List.set_set ..
 have key : ∀ (hj : j + [Value.string s].length ≤ k55.sz) (hM : k55.M W base oki e' ([.string e.f0, .string e.f1, v2, .string e.f3, v4].take j ++ [.string s] ++ [.string e.f0, .string e.f1, v2, .string e.f3, v4].drop (j + [Value.string s].length))),
  Kd.S k55 55 (W.setCell ⟨g, i.toNat * 5 + j, none⟩ (.string s)) base ok (.slice (some ⟨g, 0, none⟩) l.length cap) (l.set i.toNat e') ∧ W.grownBy (W.setCell ⟨g, i.toNat * 5 + j, none⟩ (.string s)) (some g) := fun hj hM => by
  have h := Kd.S_seg (okg := fun _ => False) hH h0 h1 hj (x' := e') (okp := oki) hM (fun k hk => .inl hk) (fun k hk => hk.elim)
  rw [e3] at h
  exact h
 rcases hx with ⟨rfl, rfl⟩ | ⟨rfl, rfl⟩ | ⟨rfl, rfl⟩
 {
 exact key (show 0 + 1 ≤ 5 from by decide) (k55_mkM W base oki ⟨s, e.f1, e.f2, e.f3, e.f4⟩ g2 g4)}
 {
 exact key (show 1 + 1 ≤ 5 from by decide) (k55_mkM W base oki ⟨e.f0, s, e.f2, e.f3, e.f4⟩ g2 g4)}
 {
 exact key (show 3 + 1 ≤ 5 from by decide) (k55_mkM W base oki ⟨e.f0, e.f1, e.f2, s, e.f4⟩ g2 g4)}
theorem itemT_refs (HS : Kd.S k55 55 W base ok (.slice (some ⟨g, 0, none⟩) l.length cap) (l.set i.toNat e)) (h0 : 0 ≤ i) (h1 : i < (l.length : Int)) (hok : ∀ k, W.heap.size ≤ k → ok k) :
 ∃ (A : Option Addr) (c : Nat), W.cell? ⟨g, i.toNat * 5 + 2, none⟩ = some (.slice A e.f2.length c) ∧ Kd.R Kd.string 9 W base (fun k_ => some k_ = (Value.slice A e.f2.length c).ownBlock) (.slice A e.f2.length c) e.f2 ∧ (∀ k, some k = (Value.slice A e.f2.length c).ownBlock → ok k) ∧
  ∀ (W2 : World) (t2 : List ByteArray), Kd.R Kd.string 9 W2 base (fun k_ => some k_ = (Value.slice A e.f2.length c).ownBlock ∨ W.heap.size ≤ k_) (.slice A e.f2.length c) t2 → Kept W W2 (fun k_ => some k_ = (Value.slice A e.f2.length c).ownBlock) →
   Kd.S k55 55 W2 base ok (.slice (some ⟨g, 0, none⟩) l.length cap) (l.set i.toNat ⟨e.f0, e.f1, t2, e.f3, e.f4⟩) := by
 obtain ⟨oki, v2, v4, hc, _, g2, g4, hoki, hH⟩ := itemT_elem HS h0 h1
 obtain ⟨A, c, rfl⟩ := Kd.R_slice g2
 refine ⟨A, c, hc.2.2.1, Kd.R_tight rfl g2, fun k hk => (hoki k (g2.1 k hk.symm)).1, fun W2 t2 g2' hk => ?_⟩
 have g4' := Kd.R_kept (Kd.R_apart' g4 (Kd.R_typed g2) (by decide)) hk (fun k hk => hk.2)
 have hH2 := Kd.H_kept (Kd.H_widen hH) hk (fun k _ hn h2 => hn (Or.inl (g2.1 k h2.symm)))
 have h := Kd.H_back hH2 (x' := ⟨e.f0, e.f1, t2, e.f3, e.f4⟩) (okp := fun k_ => oki k_ ∨ W.heap.size ≤ k_)
  (k55_mkM W2 base _ ⟨e.f0, e.f1, t2, e.f3, e.f4⟩ (Kd.R_mono g2' (fun k hk => hk.elim (fun h => .inl (g2.1 k h.symm)) .inr)) (Kd.R_mono g4' (fun k hk => .inl hk.1)))
  (fun k hk => hk.elim Or.inl (fun h3 => Or.inr ⟨hok k h3, h3⟩))
 rw [List.set_set] at h
 exact h
theorem itemT_tree (HS : Kd.S k55 55 W base ok (.slice (some ⟨g, 0, none⟩) l.length cap) (l.set i.toNat e)) (h0 : 0 ≤ i) (h1 : i < (l.length : Int)) (hok : ∀ k, W.heap.size ≤ k → ok k) :
 ∃ (A : Option Addr) (c : Nat), W.cell? ⟨g, i.toNat * 5 + 4, none⟩ = some (.slice A e.f4.length c) ∧ Kd.R k57 57 W base (fun k_ => some k_ = (Value.slice A e.f4.length c).ownBlock) (.slice A e.f4.length c) e.f4 ∧ (∀ k, some k = (Value.slice A e.f4.length c).ownBlock → ok k) ∧
  ∀ (W2 : World) (t4 : List S57), Kd.R k57 57 W2 base (fun k_ => some k_ = (Value.slice A e.f4.length c).ownBlock ∨ W.heap.size ≤ k_) (.slice A e.f4.length c) t4 → Kept W W2 (fun k_ => some k_ = (Value.slice A e.f4.length c).ownBlock) →
   Kd.S k55 55 W2 base ok (.slice (some ⟨g, 0, none⟩) l.length cap) (l.set i.toNat ⟨e.f0, e.f1, e.f2, e.f3, t4⟩) := by
 obtain ⟨oki, v2, v4, hc, _, g2, g4, hoki, hH⟩ := itemT_elem HS h0 h1
 obtain ⟨A, c, rfl⟩ := Kd.R_slice g4
 refine ⟨A, c, hc.2.2.2.2, Kd.R_tight rfl g4, fun k hk => (hoki k (g4.1 k hk.symm)).1, fun W2 t4 g4' hk => ?_⟩
 have g2' := Kd.R_kept (Kd.R_apart' g2 (Kd.R_typed g4) (by decide)) hk (fun k hk => hk.2)
 have hH2 := Kd.H_kept (Kd.H_widen hH) hk (fun k _ hn h2 => hn (Or.inl (g4.1 k h2.symm)))
 have h := Kd.H_back hH2 (x' := ⟨e.f0, e.f1, e.f2, e.f3, t4⟩) (okp := fun k_ => oki k_ ∨ W.heap.size ≤ k_)
  (k55_mkM W2 base _ ⟨e.f0, e.f1, e.f2, e.f3, t4⟩ (Kd.R_mono g2' (fun k hk => .inl hk.1)) (Kd.R_mono g4' (fun k hk => hk.elim (fun h => .inl (g4.1 k h.symm)) .inr)))
  (fun k hk => hk.elim Or.inl (fun h3 => Or.inr ⟨hok k h3, h3⟩))
 rw [List.set_set] at h
 exact h
end
set_option maxHeartbeats 4000000 in
theorem laws_markItemS.calls (k : Nat) (P0_ : Nat → Prop) (u9000_ : Value) (l0 : List S55) (a1 : Int) (r1 : Int) (r2 : List S55) (w0 w : World) (hB : Below w0.heap.size w0 w) (ho0 : Kd.S k55 55 w w0.heap.size P0_ u9000_ l0) (h : laws_markItemS.f k l0 a1 = some (r1, r2)) :
 Calls Tryz.prog 16 #[u9000_, .int .i64 a1] w fun e w' => e = .returned (.int .i64 r1) ∧ Kd.S k55 55 w' w0.heap.size (fun k_ => (P0_ k_ ∨ w.heap.size ≤ k_)) u9000_ r2 ∧ Below w0.heap.size w0 w' ∧ Kept w w' (fun k_ => P0_ k_) := by
 have HO0 := Aside0.mk (show Kd.S k55 55 w w0.heap.size (fun k_ => (P0_ k_ ∨ w.heap.size ≤ k_)) u9000_ l0 from Kd.S_mono ho0 (fun k_ hk => (.inl hk)))
 have HK := Aside0.mk (Kept.refl w (fun k_ => P0_ k_))
 have HB := Aside0.mk hB
 clear hB
 have H' := Aside0.mk (show laws_markItemS.l0 k l0 a1 0 = some (r1, r2) from h)
 clear h
 go_enter Tryz.func16, Tryz.ntmps16
 go_wp2
 go_loopg [1, 5] k (fun kq v1 v5 w' => ∃ (x0_1 : List S55) (x1_1 : Int) (x5_1 : Int), v1 = .int .i64 x1_1 ∧ v5 = .int .i64 x5_1 ∧ Aside0 (laws_markItemS.l0 kq x0_1 x1_1 x5_1 = some (r1, r2)) ∧ Aside0 (kq ≤ k) ∧ Aside0 (Kd.S k55 55 w' w0.heap.size (fun k_ => (P0_ k_ ∨ w.heap.size ≤ k_)) u9000_ x0_1) ∧ Aside0 (Kept w w' (fun k_ => P0_ k_)) ∧ Aside0 (Below w0.heap.size w0 w'))
 case atStart => exact ⟨l0, a1, 0, rfl, rfl, H', ⟨Nat.le_refl _⟩, ⟨ks_ HO0⟩, ⟨by repeat (first | (with_reducible first | exact HK.out | apply Kept.alloc | apply Kept.drewN | apply Kept.drew) | exact HK.out)⟩, ⟨bw_ HB⟩⟩
 case round =>
  clear H'
  obtain ⟨x0_1, x1_1, x5_1, rfl, rfl, HA, HK1, HO_0, HK, HB⟩ := hrel
  cases gk with
  | zero => exact absurd HA.out (by simp [laws_markItemS.l0])
  | succ k1 =>
       have H := HA.out
       clear HA
       simp only [laws_markItemS.l0] at H
       by_cases c3 : x5_1 < (x0_1.length : Int)
       {
       rw [if_pos c3] at H
       have c3b0 := decide_eq_true c3
       by_cases c5 : 0 ≤ x5_1
       {
       rw [if_pos c5] at H
       obtain ⟨t0, A0, H⟩ := Option.bind_eq_some_iff.mp H
       obtain ⟨t1, A1, H⟩ := Option.bind_eq_some_iff.mp H
       obtain ⟨⟨r2_, t2⟩, A2, H⟩ := Option.bind_eq_some_iff.mp H
       obtain ⟨t3, A3, H⟩ := Option.bind_eq_some_iff.mp H
       obtain ⟨⟨r4, t4⟩, A4, H⟩ := Option.bind_eq_some_iff.mp H
       obtain ⟨X, hX⟩ : ∃ X, X = rd_T55 x0_1 x5_1 := ⟨_, rfl⟩
       rw [← hX] at A2 A4
       have hself : x0_1.set x5_1.toNat X = x0_1 := by
        rw [hX]
        unfold rd_T55
        rw [List.getD_eq_getElem?_getD, List.getElem?_eq_getElem (by omega)]
        exact List.set_getElem_self (by omega)
       clear hX
       have HS0 := HO_0.out
       rw [← hself] at HS0
       obtain ⟨go9, co9, eo9, gb9, gl9, cl9, HG9⟩ := Kd.S_form HO_0.out (by omega)
       subst eo9
       have HS := Aside0.mk HS0
       clear HS0 gb9 gl9 HG9 HO_0 hself
       have A0 := Aside0.mk A0
       have A1 := Aside0.mk A1
       have A2 := Aside0.mk A2
       have A3 := Aside0.mk A3
       have A4 := Aside0.mk A4
       have H' := Aside0.mk H
       clear H
       have C3 := Aside0.mk c3
       have C5 := Aside0.mk c5
       have p9 : (0 ≤ x5_1) = True := eq_true c5
       have q9 : (x5_1 < (x0_1.length : Int)) = True := eq_true c3
       clear c3 c5
       go_wp2_with (first
        | ((with_reducible refine gate_callee (f := 41) rfl ?_); refine goesL_ (some 15) rfl rfl Tryz.func41 (by kernel_rfl) rfl #[.int .i64 x1_1] rfl (by (try simp only [List.map_toArray, List.map_cons, List.map_nil]); first | done | rfl) ?_; (with_reducible refine (laws_markText.calls k1 x1_1 t0 _ A0.out).mono ?_); rintro e w2 ⟨rfl, hb⟩; refine ⟨_, rfl, ?_⟩;
             replace HS := Aside0.mk (Kd.S_below (ks_ HS) hb); replace HK := Aside0.mk (Kept.below (S := (fun k_ => P0_ k_)) (by repeat (first | (with_reducible first | exact HK.out | apply Kept.alloc | apply Kept.drewN | apply Kept.drew) | exact HK.out)) hb); replace HB := Aside0.mk (below_step (bw_ HB) hb); clear hb;
             obtain ⟨_, _, _, ⟨hx2, _, _, _, _⟩, hf2', _, _, _, _⟩ := itemT_elem HS.out C5.out C3.out; have hf2 := hf2' 0; rw [Nat.add_zero] at hf2; clear hf2')
        | ((with_reducible refine gate_store (t := 9) (p := 17) rfl ?_); refine store_event (t := 9) (p := 17) (v := ?vo_3) (w1 := (w2.setCell ⟨go9, x5_1.toNat * 5, none⟩ (.string t0))) ?hg ?ho ?hn ?hr ?_; (case ho => rfl); (case hg => rfl); (case hn => rfl); (case hr => first | (go_simp; done) | (go_simp; rfl)); intro w3 hw;
             have hp_ := itemT_put HS.out C5.out C3.out 0 t0 ⟨t0, X.f1, X.f2, X.f3, X.f4⟩ (.inl ⟨rfl, rfl⟩); rw [show w2.setCell ⟨go9, x5_1.toNat * 5 + 0, none⟩ (.string t0) = w3 from hw.symm] at hp_;
             replace HK := Aside0.mk (Kept.of_grown hp_.2 HK.out (fun k_ e_ => by injection e_ with e_; subst e_; exact (Kd.S_R HS.out).1 _ rfl)); replace HB := Aside0.mk (pw_below_grown HB.out _ HB.out.size hp_.2 (fun k_ e_ => by injection e_ with e_; subst e_; exact Kd.S_base HS.out _ rfl)); replace HS := Aside0.mk hp_.1; clear hp_ hw hx2 hf2)
        | ((with_reducible refine gate_callee (f := 41) rfl ?_); refine goesL_ (some 23) rfl rfl Tryz.func41 (by kernel_rfl) rfl #[.int .i64 (wrap64 (x1_1 + 1))] rfl (by (try simp only [List.map_toArray, List.map_cons, List.map_nil]); first | done | rfl) ?_; (with_reducible refine (laws_markText.calls k1 (wrap64 (x1_1 + 1)) t1 _ A1.out).mono ?_); rintro e w4 ⟨rfl, hb⟩; refine ⟨_, rfl, ?_⟩;
             replace HS := Aside0.mk (Kd.S_below (ks_ HS) hb); replace HK := Aside0.mk (Kept.below (S := (fun k_ => P0_ k_)) (by repeat (first | (with_reducible first | exact HK.out | apply Kept.alloc | apply Kept.drewN | apply Kept.drew) | exact HK.out)) hb); replace HB := Aside0.mk (below_step (bw_ HB) hb); clear hb;
             obtain ⟨_, _, _, ⟨_, hx4, _, _, _⟩, hf4', _, _, _, _⟩ := itemT_elem HS.out C5.out C3.out; have hf4 := hf4' 1; clear hf4')
        | ((with_reducible refine gate_store (t := 9) (p := 25) rfl ?_); refine store_event (t := 9) (p := 25) (v := ?vo_5) (w1 := (w4.setCell ⟨go9, x5_1.toNat * 5 + 1, none⟩ (.string t1))) ?hg ?ho ?hn ?hr ?_; (case ho => rfl); (case hg => rfl); (case hn => rfl); (case hr => first | (go_simp; done) | (go_simp; rfl)); intro w5 hw;
             have hp_ := itemT_put HS.out C5.out C3.out 1 t1 ⟨t0, t1, X.f2, X.f3, X.f4⟩ (.inr (.inl ⟨rfl, rfl⟩)); rw [← hw] at hp_;
             replace HK := Aside0.mk (Kept.of_grown hp_.2 HK.out (fun k_ e_ => by injection e_ with e_; subst e_; exact (Kd.S_R HS.out).1 _ rfl)); replace HB := Aside0.mk (pw_below_grown HB.out _ HB.out.size hp_.2 (fun k_ e_ => by injection e_ with e_; subst e_; exact Kd.S_base HS.out _ rfl)); replace HS := Aside0.mk hp_.1; clear hp_ hw hx4 hf4;
             obtain ⟨Ae, ce, hxe, hRe, hoe, hback⟩ := itemT_refs HS.out C5.out C3.out (fun k_ hk_ => .inr (Nat.le_trans HK.out.1 hk_)); have HRe := Aside0.mk hRe; have HOe := Aside0.mk hoe; have HBe := Aside0.mk hback; clear hRe hoe hback)
        | ((with_reducible refine gate_callee (f := 17) rfl ?_); refine goesL_ (some 34) rfl rfl Tryz.func17 (by kernel_rfl) rfl #[.slice Ae X.f2.length ce, .int .i64 (wrap64 (wrap64 (x1_1 + 1) + 1))] rfl (by (try simp only [List.map_toArray, List.map_cons, List.map_nil]); first | done | rfl) ?_; (with_reducible refine (laws_markStringS.calls k1 (fun k_ => some k_ = (Value.slice Ae X.f2.length ce).ownBlock) (.slice Ae X.f2.length ce) X.f2 (wrap64 (wrap64 (x1_1 + 1) + 1)) r2_ t2 w0 _ ?hb ?ho A2.out).mono ?_); (case hb => repeat (first | (with_reducible first | exact HB.out | apply below_alloc | apply pw_below_drewN | apply below_drew1) | exact HB.out)); (case ho => exact HRe.out); rintro e w6 ⟨rfl, ho2, hb2, hk2⟩; refine ⟨_, rfl, ?_⟩;
             have n_ := Aside0.mk (HBe.out w6 t2 ho2 hk2); replace HK := Aside0.mk (Kept.then_ (S := fun k_ => P0_ k_) HK.out hk2 (fun k_ h_ => HOe.out k_ h_)); replace HB := Aside0.mk hb2; clear HS; have HS := n_; clear n_ hk2 hb2 ho2 HRe HOe HBe hxe)
        | ((with_reducible refine gate_callee (f := 41) rfl ?_); refine goesL_ (some 38) rfl rfl Tryz.func41 (by kernel_rfl) rfl #[.int .i64 r2_] rfl (by (try simp only [List.map_toArray, List.map_cons, List.map_nil]); first | done | rfl) ?_; (with_reducible refine (laws_markText.calls k1 r2_ t3 _ A3.out).mono ?_); rintro e w7 ⟨rfl, hb⟩; refine ⟨_, rfl, ?_⟩;
             replace HS := Aside0.mk (Kd.S_below (ks_ HS) hb); replace HK := Aside0.mk (Kept.below (S := (fun k_ => P0_ k_)) (by repeat (first | (with_reducible first | exact HK.out | apply Kept.alloc | apply Kept.drewN | apply Kept.drew) | exact HK.out)) hb); replace HB := Aside0.mk (below_step (bw_ HB) hb); clear hb;
             obtain ⟨_, _, _, ⟨_, _, _, hx7, _⟩, hf7', _, _, _, _⟩ := itemT_elem HS.out C5.out C3.out; have hf7 := hf7' 3; clear hf7')
        | ((with_reducible refine gate_store (t := 9) (p := 40) rfl ?_); refine store_event (t := 9) (p := 40) (v := ?vo_8) (w1 := (w7.setCell ⟨go9, x5_1.toNat * 5 + 3, none⟩ (.string t3))) ?hg ?ho ?hn ?hr ?_; (case ho => rfl); (case hg => rfl); (case hn => rfl); (case hr => first | (go_simp; done) | (go_simp; rfl)); intro w8 hw;
             have hp_ := itemT_put HS.out C5.out C3.out 3 t3 ⟨t0, t1, t2, t3, X.f4⟩ (.inr (.inr ⟨rfl, rfl⟩)); rw [← hw] at hp_;
             replace HK := Aside0.mk (Kept.of_grown hp_.2 HK.out (fun k_ e_ => by injection e_ with e_; subst e_; exact (Kd.S_R HS.out).1 _ rfl)); replace HB := Aside0.mk (pw_below_grown HB.out _ HB.out.size hp_.2 (fun k_ e_ => by injection e_ with e_; subst e_; exact Kd.S_base HS.out _ rfl)); replace HS := Aside0.mk hp_.1; clear hp_ hw hx7 hf7;
             obtain ⟨Ae, ce, hxe, hRe, hoe, hback⟩ := itemT_tree HS.out C5.out C3.out (fun k_ hk_ => .inr (Nat.le_trans HK.out.1 hk_)); have HRe := Aside0.mk hRe; have HOe := Aside0.mk hoe; have HBe := Aside0.mk hback; clear hRe hoe hback)
        | ((with_reducible refine gate_callee (f := 24) rfl ?_); refine goesL_ (some 49) rfl rfl Tryz.func24 (by kernel_rfl) rfl #[.slice Ae X.f4.length ce, .int .i64 (wrap64 (r2_ + 1))] rfl (by (try simp only [List.map_toArray, List.map_cons, List.map_nil]); first | done | rfl) ?_; (with_reducible refine (laws_markEntryS.calls k1 (fun k_ => some k_ = (Value.slice Ae X.f4.length ce).ownBlock) (.slice Ae X.f4.length ce) X.f4 (wrap64 (r2_ + 1)) r4 t4 w0 _ ?hb ?ho A4.out).mono ?_); (case hb => repeat (first | (with_reducible first | exact HB.out | apply below_alloc | apply pw_below_drewN | apply below_drew1) | exact HB.out)); (case ho => exact HRe.out); rintro e w9 ⟨rfl, ho2, hb2, hk2⟩; refine ⟨_, rfl, ?_⟩;
             have n_ := Aside0.mk (HBe.out w9 t4 ho2 hk2); replace HK := Aside0.mk (Kept.then_ (S := fun k_ => P0_ k_) HK.out hk2 (fun k_ h_ => HOe.out k_ h_)); replace HB := Aside0.mk hb2; clear HS; have HS := n_; clear n_ hk2 hb2 ho2 HRe HOe HBe hxe))
       go_roundg k1
       case measure => have := HK1.out; omega
       case rel => exact ⟨x0_1.set x5_1.toNat ⟨t0, t1, t2, t3, t4⟩, r4, wrap64 (x5_1 + 1), rfl, rfl, H', ⟨by have := HK1.out; omega⟩, ⟨ks_ HS⟩, ⟨by repeat (first | (with_reducible first | exact HK.out | apply Kept.alloc | apply Kept.drewN | apply Kept.drew) | exact HK.out)⟩, ⟨bw_ HB⟩⟩}
       {
       rw [if_neg c5] at H
       exact absurd H (by simp)}}
       {
       rw [if_neg c3] at H
       have c3b0 := decide_eq_false c3
       clear c3
       simp only [Option.some.injEq, Prod.mk.injEq] at H
       obtain ⟨rfl, rfl⟩ := H
       obtain ⟨Ao16, co16, eo16⟩ := Kd.S_slice HO_0.out
       subst eo16
       go_wp2
       go_ret
       exact ⟨rfl, ks_ HO_0, bw_ HB, by repeat (first | (with_reducible first | exact HK.out | apply Kept.alloc | apply Kept.drewN | apply Kept.drew) | exact HK.out)⟩
}
def laws_heldStringS.l0 : Nat → List ByteArray → Int → Int → Option (Int)
 | 0, _, _, _ => none
 | k + 1, x0, x1, x5 => if x5 < (x0.length : Int) then (if 0 ≤ x5 then ((laws_markText.f k x1).bind fun t591 => (if (rdOf ByteArray.empty x0 x5).toList = t591.toList then (laws_heldStringS.l0 k x0 (wrap64 (x1 + 1)) (wrap64 (x5 + 1))) else (some (-1)))) else (none)) else (some x1)
def laws_heldStringS.f (k : Nat) (l0 : List ByteArray) (a1 : Int) : Option (Int) := laws_heldStringS.l0 k l0 a1 0
theorem laws_heldStringS.calls (k : Nat) (A0 : Option Addr) (c0 : Nat) (l0 : List ByteArray) (a1 : Int) (r : Int) (w : World) (hr0 : Kd.C Kd.string w A0 l0.length l0) (hc0 : l0.length ≤ c0) (h : laws_heldStringS.f k l0 a1 = some r) :
 Calls Tryz.prog 18 #[.slice A0 l0.length c0, .int .i64 a1] w fun e w' => e = .returned (.int .i64 r) ∧ Below w.heap.size w w' := by
 have HR0 := Aside0.mk hr0
 have HC0 := Aside0.mk hc0
 clear hr0 hc0
 have HB := Aside0.mk (Below.refl w.heap.size w)
 have H : (laws_heldStringS.l0 k l0 a1 0) = some r := h
 clear h
 have H' := Aside0.mk H
 clear H
 go_enter Tryz.func18, Tryz.ntmps18
 go_wp2
 go_loopg [1, 5] k (fun kq v1 v5 w' => ∃ (x1_1 : Int) (x5_1 : Int), v1 = .int .i64 x1_1 ∧ v5 = .int .i64 x5_1 ∧ Aside0 (laws_heldStringS.l0 kq l0 x1_1 x5_1 = some r) ∧ Aside0 (kq ≤ k) ∧ Aside0 (Below w.heap.size w w'))
 case atStart => exact ⟨(a1), (0), (by first | rfl | (simp; done) | (simp [*]; done)), (by first | rfl | (simp; done) | (simp [*]; done)), H', ⟨Nat.le_refl _⟩, ⟨bw_ HB⟩⟩
 case round =>
  clear H'
  try clear c1
  try clear p2
  obtain ⟨x1_1, x5_1, rfl, rfl, HA, HK1, HB⟩ := hrel
  cases gk with
  | zero => exact absurd HA.out (by simp [laws_heldStringS.l0])
  | succ k1 =>
       have H := HA.out
       clear HA
       simp only [laws_heldStringS.l0] at H
       by_cases c3 : x5_1 < (l0.length : Int)
       {
       rw [if_pos c3] at H
       have c3b0 := decide_eq_true c3
       clear c3
       by_cases c4 : 0 ≤ x5_1
       {
       rw [if_pos c4] at H
       have c4b0 := decide_eq_true c4
       clear c4
       replace H := Option.bind_eq_some_iff.mp H
       obtain ⟨t591, A50, H⟩ := H
       have A5 := Aside0.mk A50
       clear A50
       by_cases c6 : (rdOf ByteArray.empty l0 x5_1).toList = t591.toList
       {
       rw [if_pos c6] at H
       have c6b0 : ((rdOf ByteArray.empty l0 x5_1).toList == t591.toList) = true := beq_iff_eq.mpr c6
       have c6b1 : ((rdOf ByteArray.empty l0 x5_1).toList != t591.toList) = false := bne_eq_false_iff_eq.mpr c6
       clear c6
       have H' := Aside0.mk H
       clear H
       try go_wp2
       replace HB := Aside0.mk (below_drew1 HB.out)
       have p590 : 0 ≤ (x5_1 : Int) := dA_
       have q590 : x5_1 < (l0.length : Int) := dA_
       obtain ⟨ad590, e590, hx590_0⟩ := Kd.at_string HR0.out x5_1 p590 q590
       have hw590_0 := hx590_0
       cases e590
       replace hx590_0 := hX_ HB hx590_0
       replace p590 := eq_true p590
       replace q590 := eq_true q590
       refine start_ (n := 7) (S := fun w' => w'.cell? (ad590.add (x5_1).toNat) = some (.string (rdOf ByteArray.empty l0 x5_1))) (ds := []) (bs_ 7 0) (by kernel_rfl) rfl (by kernel_rfl) (((HB.out.cell (World.block_lt_of_cell? w _ hw590_0)).trans hw590_0)) (fun hHeld => ?_)
       generalize wr.drew = w7 at HB hx590_0 hHeld ⊢
       refine pure_ (i := 0) (N := some 12) (v := ?_) (a' := ?_) #[true, false, false, false, false, false, false] rfl rfl (by kernel_rfl) (fun _ _ _ h => h) (Or.inl ⟨by rfl, ?_⟩) ?_ ?_
       rotate_left
       {
       intro w'
       go_simp
       with_reducible rfl}
       rotate_left
       {
       simp only [Act.put, List.setIfInBounds_toArray, List.set_cons_zero, List.set_cons_succ, i64_w, i32_w]
       rfl}
       refine pure_ (i := 1) (N := some 13) (v := ?_) (a' := ?_) #[true, true, false, false, false, false, false] rfl rfl (by kernel_rfl) (fun _ _ _ h => h) (Or.inl ⟨by rfl, ?_⟩) ?_ ?_
       rotate_left
       {
       intro w'
       go_simp
       with_reducible rfl}
       rotate_left
       {
       simp only [Act.put, List.setIfInBounds_toArray, List.set_cons_zero, List.set_cons_succ, i64_w, i32_w]
       rfl}
       refine pure_ (i := 2) (N := some 14) (v := ?_) (a' := ?_) #[true, true, true, false, false, false, false] rfl rfl (by kernel_rfl) (fun _ _ _ h => h) (Or.inl ⟨by rfl, ?_⟩) ?_ ?_
       rotate_left
       {
       intro w'
       go_simp
       with_reducible rfl}
       rotate_left
       {
       simp only [Act.put, List.setIfInBounds_toArray, List.set_cons_zero, List.set_cons_succ, i64_w, i32_w]
       rfl}
       refine pure_ (i := 4) (N := some 16) (v := ?_) (a' := ?_) #[true, true, true, false, true, false, false] rfl rfl (by kernel_rfl) (fun _ _ _ h => h) (Or.inl ⟨by rfl, ?_⟩) ?_ ?_
       rotate_left
       {
       intro w'
       go_simp
       with_reducible rfl}
       rotate_left
       {
       simp only [Act.put, List.setIfInBounds_toArray, List.set_cons_zero, List.set_cons_succ, i64_w, i32_w]
       rfl}
       refine take_ (i := 3) (N := some 15) (v := ?_) (a' := ?_) #[true, true, true, true, true, false, false] rfl rfl (by kernel_rfl) (fun _ _ _ h => h) (Or.inl ⟨by rfl, ?_⟩) hHeld ?_ ?_
       rotate_left
       {
       intro w' s0
       go_simp
       with_reducible rfl}
       rotate_left
       {
       simp only [Act.put, List.setIfInBounds_toArray, List.set_cons_zero, List.set_cons_succ, i64_w, i32_w]
       rfl}
       refine one_ (i := 5) (N := some 17) #[true, true, true, true, true, true, false] rfl rfl (by kernel_rfl) (by decide) (fun K hK => ?_)
       refine gS_ Tryz.func41 #[.int .i64 x1_1] ?_
       with_reducible refine (laws_markText.calls k1 x1_1 t591 _ A5.out).mono ?_
       rintro e w8 ⟨rfl, hb⟩
       refine ⟨_, rfl, ?_⟩
       replace HB := Aside0.mk (below_step (bw_ HB) hb)
       (try clear hb)
       (try clear hb2)
       (try clear hk)
       (try clear hi)
       refine hK.out _ _ (((HB.out.cell (World.block_lt_of_cell? w _ hw590_0)).trans hw590_0)) (fun hHeld => ?_)
       clear hK K
       refine nS_ 17 ?_
       refine pure_ (i := 6) (N := some 18) (v := ?_) (a' := ?_) #[true, true, true, true, true, true, true] rfl rfl (by kernel_rfl) (fun _ _ _ h => h) (Or.inl ⟨by rfl, ?_⟩) ?_ ?_
       rotate_left
       {
       intro w'
       go_simp
       with_reducible rfl}
       rotate_left
       {
       simp only [Act.put, List.setIfInBounds_toArray, List.set_cons_zero, List.set_cons_succ, i64_w, i32_w]
       rfl}
       refine done_ (by kernel_rfl) ?_
       try go_wp2
       go_roundg k1
       case measure => have := HK1.out; omega
       case rel => exact ⟨(wrap64 (x1_1 + 1)), (wrap64 (x5_1 + 1)), (by first | rfl | (simp; done) | (simp [*]; done)), (by first | rfl | (simp; done) | (simp [*]; done)), H', ⟨by have := HK1.out; omega⟩, ⟨bw_ HB⟩⟩}
       {
       rw [if_neg c6] at H
       have c6b0 : ((rdOf ByteArray.empty l0 x5_1).toList == t591.toList) = false := beq_eq_false_iff_ne.mpr c6
       have c6b1 : ((rdOf ByteArray.empty l0 x5_1).toList != t591.toList) = true := bne_iff_ne.mpr c6
       obtain rfl := Option.some.inj H
       try go_wp2
       replace HB := Aside0.mk (below_drew1 HB.out)
       have p590 : 0 ≤ (x5_1 : Int) := dA_
       have q590 : x5_1 < (l0.length : Int) := dA_
       obtain ⟨ad590, e590, hx590_0⟩ := Kd.at_string HR0.out x5_1 p590 q590
       have hw590_0 := hx590_0
       cases e590
       replace hx590_0 := hX_ HB hx590_0
       replace p590 := eq_true p590
       replace q590 := eq_true q590
       refine start_ (n := 7) (S := fun w' => w'.cell? (ad590.add (x5_1).toNat) = some (.string (rdOf ByteArray.empty l0 x5_1))) (ds := []) (bs_ 7 0) (by kernel_rfl) rfl (by kernel_rfl) (((HB.out.cell (World.block_lt_of_cell? w _ hw590_0)).trans hw590_0)) (fun hHeld => ?_)
       generalize wr.drew = w9 at HB hx590_0 hHeld ⊢
       refine pure_ (i := 0) (N := some 12) (v := ?_) (a' := ?_) #[true, false, false, false, false, false, false] rfl rfl (by kernel_rfl) (fun _ _ _ h => h) (Or.inl ⟨by rfl, ?_⟩) ?_ ?_
       rotate_left
       {
       intro w'
       go_simp
       with_reducible rfl}
       rotate_left
       {
       simp only [Act.put, List.setIfInBounds_toArray, List.set_cons_zero, List.set_cons_succ, i64_w, i32_w]
       rfl}
       refine pure_ (i := 1) (N := some 13) (v := ?_) (a' := ?_) #[true, true, false, false, false, false, false] rfl rfl (by kernel_rfl) (fun _ _ _ h => h) (Or.inl ⟨by rfl, ?_⟩) ?_ ?_
       rotate_left
       {
       intro w'
       go_simp
       with_reducible rfl}
       rotate_left
       {
       simp only [Act.put, List.setIfInBounds_toArray, List.set_cons_zero, List.set_cons_succ, i64_w, i32_w]
       rfl}
       refine pure_ (i := 2) (N := some 14) (v := ?_) (a' := ?_) #[true, true, true, false, false, false, false] rfl rfl (by kernel_rfl) (fun _ _ _ h => h) (Or.inl ⟨by rfl, ?_⟩) ?_ ?_
       rotate_left
       {
       intro w'
       go_simp
       with_reducible rfl}
       rotate_left
       {
       simp only [Act.put, List.setIfInBounds_toArray, List.set_cons_zero, List.set_cons_succ, i64_w, i32_w]
       rfl}
       refine pure_ (i := 4) (N := some 16) (v := ?_) (a' := ?_) #[true, true, true, false, true, false, false] rfl rfl (by kernel_rfl) (fun _ _ _ h => h) (Or.inl ⟨by rfl, ?_⟩) ?_ ?_
       rotate_left
       {
       intro w'
       go_simp
       with_reducible rfl}
       rotate_left
       {
       simp only [Act.put, List.setIfInBounds_toArray, List.set_cons_zero, List.set_cons_succ, i64_w, i32_w]
       rfl}
       refine take_ (i := 3) (N := some 15) (v := ?_) (a' := ?_) #[true, true, true, true, true, false, false] rfl rfl (by kernel_rfl) (fun _ _ _ h => h) (Or.inl ⟨by rfl, ?_⟩) hHeld ?_ ?_
       rotate_left
       {
       intro w' s0
       go_simp
       with_reducible rfl}
       rotate_left
       {
       simp only [Act.put, List.setIfInBounds_toArray, List.set_cons_zero, List.set_cons_succ, i64_w, i32_w]
       rfl}
       refine one_ (i := 5) (N := some 17) #[true, true, true, true, true, true, false] rfl rfl (by kernel_rfl) (by decide) (fun K hK => ?_)
       refine gS_ Tryz.func41 #[.int .i64 x1_1] ?_
       with_reducible refine (laws_markText.calls k1 x1_1 t591 _ A5.out).mono ?_
       rintro e w10 ⟨rfl, hb⟩
       refine ⟨_, rfl, ?_⟩
       replace HB := Aside0.mk (below_step (bw_ HB) hb)
       (try clear hb)
       (try clear hb2)
       (try clear hk)
       (try clear hi)
       refine hK.out _ _ (((HB.out.cell (World.block_lt_of_cell? w _ hw590_0)).trans hw590_0)) (fun hHeld => ?_)
       clear hK K
       refine nS_ 17 ?_
       refine pure_ (i := 6) (N := some 18) (v := ?_) (a' := ?_) #[true, true, true, true, true, true, true] rfl rfl (by kernel_rfl) (fun _ _ _ h => h) (Or.inl ⟨by rfl, ?_⟩) ?_ ?_
       rotate_left
       {
       intro w'
       go_simp
       with_reducible rfl}
       rotate_left
       {
       simp only [Act.put, List.setIfInBounds_toArray, List.set_cons_zero, List.set_cons_succ, i64_w, i32_w]
       rfl}
       refine done_ (by kernel_rfl) ?_
       try go_wp2
       go_ret
       exact ⟨eR_, bw_ HB⟩}}
       {
       rw [if_neg c4] at H
       exact absurd H (by simp)}}
       {
       rw [if_neg c3] at H
       have c3b0 := decide_eq_false c3
       clear c3
       obtain rfl := Option.some.inj H
       go_wp2
       go_ret
       exact ⟨eR_, bw_ HB⟩
}
def impl_Word32.l0 : Nat → Int → List Int → Int → Int → Option (ByteArray)
 | 0, _, _, _, _ => none
 | k + 1, x0, x3, x7, x8 => if x8 < x7 then (if 0 ≤ (wrap64 (5 * x8)) then (if 0 ≤ (Go.bits .and .u64 (shr .u64 x0 (wrap64 (5 * x8))) 31) then (if (Go.bits .and .u64 (shr .u64 x0 (wrap64 (5 * x8))) 31) < 32 then (if 0 ≤ (wrap64 (12 - x8)) then (if (wrap64 (12 - x8)) < (x3.length : Int) then (impl_Word32.l0 k x0 (x3.set ((wrap64 (12 - x8)) : Int).toNat (bt (⟨#[48, 49, 50, 51, 52, 53, 54, 55, 56, 57, 97, 98, 99, 100, 102, 103, 104, 105, 106, 107, 108, 109, 110, 112, 113, 114, 115, 118, 119, 120, 121, 122]⟩ : ByteArray) (Go.bits .and .u64 (shr .u64 x0 (wrap64 (5 * x8))) 31))) x7 (wrap64 (x8 + 1))) else (none)) else (none)) else (none)) else (none)) else (none)) else (some (strOfNums x3))
def impl_Word32.f (k : Nat) (a0 : Int) : Option (ByteArray) := if 13 ≤ 281474976710656 then ((some (List.replicate 13 0 : List Int)).bind fun y373 => (impl_Word32.l0 k a0 y373 (y373.length : Int) 0)) else (none)
theorem impl_Word32.mono_l : ∀ k, (∀ y0 y1 y2 y3, LeO (impl_Word32.l0 k y0 y1 y2 y3) (impl_Word32.l0 (k + 1) y0 y1 y2 y3))
 | 0 => fun _ _ _ _ r h => by simp [impl_Word32.l0] at h
 | k + 1 => by
      have ih0 := impl_Word32.mono_l k
      {
      intro y0 y1 y2 y3
      unfold impl_Word32.l0
      repeat' first
      | (with_reducible exact ih0 _ _ _ _)
      | (with_reducible exact LeO.refl _)
      | (with_reducible exact LeO.none _)
      | (with_reducible refine LeO.ite ?_ ?_)
      | (with_reducible refine LeO.bind ?_ (fun _ => ?_))
      | exact ih0 _ _ _ _
      | exact LeO.none _
      | refine LeO.ite ?_ ?_
      | refine LeO.bind ?_ (fun _ => ?_)}
theorem impl_Word32.mono : ∀ a0 k, LeO (impl_Word32.f k a0) (impl_Word32.f (k + 1) a0) := by
 intro a0 k
 have ih0 := impl_Word32.mono_l k
 unfold impl_Word32.f
 repeat' first
  | (with_reducible exact ih0 _ _ _ _)
  | (with_reducible exact LeO.refl _)
  | (with_reducible exact LeO.none _)
  | (with_reducible refine LeO.ite ?_ ?_)
  | (with_reducible refine LeO.bind ?_ (fun _ => ?_))
  | exact ih0 _ _ _ _
  | exact LeO.none _
  | refine LeO.ite ?_ ?_
  | refine LeO.bind ?_ (fun _ => ?_)
theorem impl_Word32.calls (k : Nat) (a0 : Int) (r : ByteArray) (w : World) (h : impl_Word32.f k a0 = some r) :
 Calls Tryz.prog 79 #[.int .u64 a0] w fun e w' => e = .returned (.string r) ∧ Below w.heap.size w w' := by
 have HB := Aside0.mk (Below.refl w.heap.size w)
 have H : (if 13 ≤ 281474976710656 then ((some (List.replicate 13 0 : List Int)).bind fun y373 => (impl_Word32.l0 k a0 y373 (y373.length : Int) 0)) else (none)) = some r := h
 clear h
 by_cases c2 : 13 ≤ 281474976710656
 {
 rw [if_pos c2] at H
 have c2b0 := eq_true c2
 have c2b1 := decide_eq_true c2
 clear c2
 obtain ⟨y373, hy373⟩ : ∃ y_ : List Int, y_ = (List.replicate 13 0) := ⟨_, rfl⟩
 replace H : (impl_Word32.l0 k a0 y373 (y373.length : Int) 0) = some r := rH_ hy373 H
 have Ny373 := Aside0.mk hy373
 clear hy373
 have H' := Aside0.mk H
 clear H
 go_enter Tryz.func79, Tryz.ntmps79
 go_wp2_with (first | ((with_reducible refine gate_dst (N := 5) rfl ?_); refine Kd.R_make (Kd.int .u8) _ 5 rfl (N := 5) rfl 88 _ _ rfl 13 rfl rfl Tryz.underlying88 (.int .u8 0) 1 info5 rfl (by decide) (by omega) 0 (ok := fun _ => True) (okp := fun _ => True) rfl (fun _ hk => hk) trivial (by omega) (by omega) (Below.refl _ _) (Nat.le_refl _) ?_; intro v374 w3 ho4 hb hg_ hnew_; clear hg_ hnew_; (first | rw [← Ny373.out] at ho4 | (simp only [Int.reduceToNat] at ho4; rw [← Ny373.out] at ho4)); have HO375 := Aside0.mk (Kd.R_lower ho4 (below_size (bw_ HB))); replace HB := Aside0.mk (below_step (bw_ HB) hb); clear hb ho4; obtain ⟨Ao5, co5, eo5⟩ := Kd.R_slice HO375.out; subst eo5))
 go_loopg [8] k (fun kq v8 w' => ∃ (x3_1 : List Int) (x8_1 : Int), v8 = .int .i64 x8_1 ∧ Aside0 (impl_Word32.l0 kq a0 x3_1 (y373.length : Int) x8_1 = some r) ∧ Aside0 (kq ≤ k) ∧ Aside0 (Kd.R (Kd.int .u8) 5 w' w.heap.size (fun _ => True) (.slice Ao5 y373.length co5) x3_1) ∧ Aside0 (Below w.heap.size w w'))
 case atStart => exact ⟨(y373), (0), (by first | rfl | (simp; done) | (simp [*]; done)), H', ⟨Nat.le_refl _⟩, ⟨kr_ HO375⟩, ⟨bw_ HB⟩⟩
 case round =>
  clear H'
  try clear c2
  try clear c2b0
  try clear c2b1
  try clear p2
  obtain ⟨x3_1, x8_1, rfl, HA, HK1, HO_3, HB⟩ := hrel
  have hl3_1 := (Kd.R_reads' HO_3.out).1
  rw [hl3_1] at HO_3
  (try simp only [hl3_1])
  cases gk with
  | zero => exact absurd HA.out (by simp [impl_Word32.l0])
  | succ k1 =>
       have H := HA.out
       clear HA
       simp only [impl_Word32.l0] at H
       by_cases c6 : x8_1 < (y373.length : Int)
       {
       rw [if_pos c6] at H
       have c6b0 := decide_eq_true c6
       (try (have c6b0' := c6b0; simp only [hl3_1] at c6b0'))
       clear c6
       obtain ⟨ji7, hji7⟩ : ∃ j_ : Int, (wrap64 (5 * x8_1)) = j_ := ⟨_, rfl⟩
       replace H : (if 0 ≤ (ji7) then (if 0 ≤ (Go.bits .and .u64 (shr .u64 a0 (ji7)) 31) then (if (Go.bits .and .u64 (shr .u64 a0 (ji7)) 31) < 32 then (if 0 ≤ (wrap64 (12 - x8_1)) then (if (wrap64 (12 - x8_1)) < (x3_1.length : Int) then (impl_Word32.l0 k1 a0 (x3_1.set ((wrap64 (12 - x8_1)) : Int).toNat (bt (⟨#[48, 49, 50, 51, 52, 53, 54, 55, 56, 57, 97, 98, 99, 100, 102, 103, 104, 105, 106, 107, 108, 109, 110, 112, 113, 114, 115, 118, 119, 120, 121, 122]⟩ : ByteArray) (Go.bits .and .u64 (shr .u64 a0 (ji7)) 31))) (y373.length : Int) (wrap64 (x8_1 + 1))) else (none)) else (none)) else (none)) else (none)) else (none)) = some r := by first | (rw [hji7] at H; exact H) | (simp only [hji7] at H ⊢; exact H)
       have hji7w : (IntKind.i64.wrap (5 * x8_1)) = ji7 := (i64_w _).trans hji7
       by_cases c8 : 0 ≤ (ji7)
       {
       rw [if_pos c8] at H
       have c8b0 := eq_true c8
       have c8b1 := decide_eq_true c8
       clear c8
       obtain ⟨ji9, hji9⟩ : ∃ j_ : Int, (shr .u64 a0 (ji7)) = j_ := ⟨_, rfl⟩
       replace H : (if 0 ≤ (Go.bits .and .u64 (ji9) 31) then (if (Go.bits .and .u64 (ji9) 31) < 32 then (if 0 ≤ (wrap64 (12 - x8_1)) then (if (wrap64 (12 - x8_1)) < (x3_1.length : Int) then (impl_Word32.l0 k1 a0 (x3_1.set ((wrap64 (12 - x8_1)) : Int).toNat (bt (⟨#[48, 49, 50, 51, 52, 53, 54, 55, 56, 57, 97, 98, 99, 100, 102, 103, 104, 105, 106, 107, 108, 109, 110, 112, 113, 114, 115, 118, 119, 120, 121, 122]⟩ : ByteArray) (Go.bits .and .u64 (ji9) 31))) (y373.length : Int) (wrap64 (x8_1 + 1))) else (none)) else (none)) else (none)) else (none)) = some r := by first | (rw [hji9] at H; exact H) | (simp only [hji9] at H ⊢; exact H)
       have hji9_ : (a0 / 2 ^ min (ji7).toNat 64) = ji9 := hji9
       have hji9z : (ji7) ≤ 64 → (a0 / 2 ^ (ji7).toNat) = ji9 := shr_small hji9
       by_cases c10 : 0 ≤ (Go.bits .and .u64 (ji9) 31)
       {
       rw [if_pos c10] at H
       have c10b0 := decide_eq_true c10
       clear c10
       by_cases c11 : (Go.bits .and .u64 (ji9) 31) < 32
       {
       rw [if_pos c11] at H
       have c11b0 := decide_eq_true c11
       clear c11
       obtain ⟨ji13, hji13⟩ : ∃ j_ : Int, (wrap64 (12 - x8_1)) = j_ := ⟨_, rfl⟩
       replace H : (if 0 ≤ (ji13) then (if (ji13) < (x3_1.length : Int) then (impl_Word32.l0 k1 a0 (x3_1.set ((ji13) : Int).toNat (bt (⟨#[48, 49, 50, 51, 52, 53, 54, 55, 56, 57, 97, 98, 99, 100, 102, 103, 104, 105, 106, 107, 108, 109, 110, 112, 113, 114, 115, 118, 119, 120, 121, 122]⟩ : ByteArray) (Go.bits .and .u64 (ji9) 31))) (y373.length : Int) (wrap64 (x8_1 + 1))) else (none)) else (none)) = some r := by first | (rw [hji13] at H; exact H) | (simp only [hji13] at H ⊢; exact H)
       have hji13w : (IntKind.i64.wrap (12 - x8_1)) = ji13 := (i64_w _).trans hji13
       by_cases c14 : 0 ≤ (ji13)
       {
       rw [if_pos c14] at H
       have c14b0 := decide_eq_true c14
       clear c14
       by_cases c15 : (ji13) < (x3_1.length : Int)
       {
       rw [if_pos c15] at H
       have c15b0 := decide_eq_true c15
       (try (have c15b0' := c15b0; simp only [hl3_1] at c15b0'))
       clear c15
       obtain ⟨y376, hy376⟩ : ∃ y_ : List Int, y_ = (x3_1.set ((ji13) : Int).toNat (bt (⟨#[48, 49, 50, 51, 52, 53, 54, 55, 56, 57, 97, 98, 99, 100, 102, 103, 104, 105, 106, 107, 108, 109, 110, 112, 113, 114, 115, 118, 119, 120, 121, 122]⟩ : ByteArray) (Go.bits .and .u64 (ji9) 31))) := ⟨_, rfl⟩
       replace H : (impl_Word32.l0 k1 a0 y376 (y373.length : Int) (wrap64 (x8_1 + 1))) = some r := rH_ hy376 H
       have Ny376 := Aside0.mk hy376
       clear hy376
       have H' := Aside0.mk H
       clear H
       have p12 : 0 ≤ ((Go.bits .and .u64 (ji9) 31) : Int) := dA_
       have q12 : (Go.bits .and .u64 (ji9) 31) < (32 : Int) := dA_
       have hx12 := bt_at (⟨#[48, 49, 50, 51, 52, 53, 54, 55, 56, 57, 97, 98, 99, 100, 102, 103, 104, 105, 106, 107, 108, 109, 110, 112, 113, 114, 115, 118, 119, 120, 121, 122]⟩ : ByteArray) (Go.bits .and .u64 (ji9) 31)
       replace p12 := eq_true p12
       replace q12 := eq_true q12
       have p16 : 0 ≤ ((ji13) : Int) := dA_
       have q16 : ((ji13) : Int) < ((x3_1.length : Int) : Int) := dA_
       obtain ⟨go16, co16, eo16, gb16, gl16, cl16, HG16⟩ := Kd.R_form HO_3.out (by omega)
       (first | cases eo16 | (injection eo16 with ea_ en_ ec_; (first | subst ea_ | (injection ea_ with ea_; subst ea_)); subst ec_; clear en_))
       have GB16 := Aside0.mk gb16
       have GG16 := Aside0.mk HG16
       clear gb16 gl16 HG16
       obtain ⟨hx16_0, hf16_0⟩ := Kd.R_celln 0 HO_3.out ((ji13) : Int) p16 q16
       replace p16 := eq_true p16
       replace q16 := eq_true q16
       have HP17 := Kd.R_putg HO_3.out ((ji13) : Int) (bt (⟨#[48, 49, 50, 51, 52, 53, 54, 55, 56, 57, 97, 98, 99, 100, 102, 103, 104, 105, 106, 107, 108, 109, 110, 112, 113, 114, 115, 118, 119, 120, 121, 122]⟩ : ByteArray) (Go.bits .and .u64 (ji9) 31))
       go_wp2_with (first | ((with_reducible refine gate_store (t := 5) (p := 20) rfl ?_); refine store_event (t := 5) (p := 20) (v := ?vo_w18) (w1 := (wr.setCell ⟨go16, ((ji13) : Int).toNat, none⟩ (.int .u8 (bt (⟨#[48, 49, 50, 51, 52, 53, 54, 55, 56, 57, 97, 98, 99, 100, 102, 103, 104, 105, 106, 107, 108, 109, 110, 112, 113, 114, 115, 118, 119, 120, 121, 122]⟩ : ByteArray) (Go.bits .and .u64 (ji9) 31))))) ?hg ?ho ?hn ?hr ?_; (case ho => rfl); (case hg => rfl); (case hn => rfl); (case hr => first | (go_simp; done) | (go_simp; rfl)); intro w18 hw; have hg : wr.grownBy w18 (some go16) := (by rw [hw]; exact HP17.2); have hp_ : Kd.R (Kd.int .u8) 5 w18 w.heap.size (fun _ => True) (.slice (some ⟨go16, 0, none⟩) x3_1.length co5) y376 := (by rw [hw, Ny376.out]; exact HP17.1); clear HP17; replace HO_3 := Aside0.mk (hp_); replace HB := Aside0.mk ((by rw [hw]; exact below_set (HB.out) GB16.out : Below w.heap.size w w18)); clear hg hw hp_))
       (try simp only [← hl3_1])
       go_roundg k1
       case measure => have := HK1.out; omega
       case rel => exact ⟨(y376), (wrap64 (x8_1 + 1)), (by first | rfl | (simp; done) | (simp [*]; done)), H', ⟨by have := HK1.out; omega⟩, ⟨by (try simp only [hl3_1]); (with_reducible repeat (first | apply Kd.R_alloc | apply Kd.R_drewN | apply Kd.R_drew)); exact HO_3.out⟩, ⟨bw_ HB⟩⟩}
       {
       rw [if_neg c15] at H
       exact absurd H (by simp)}}
       {
       rw [if_neg c14] at H
       exact absurd H (by simp)}}
       {
       rw [if_neg c11] at H
       exact absurd H (by simp)}}
       {
       rw [if_neg c10] at H
       exact absurd H (by simp)}}
       {
       rw [if_neg c8] at H
       exact absurd H (by simp)}}
       {
       rw [if_neg c6] at H
       have c6b0 := decide_eq_false c6
       (try (have c6b0' := c6b0; simp only [hl3_1] at c6b0'))
       clear c6
       obtain rfl := Option.some.inj H
       have hcv19 := own_string (P := Tryz.prog) Tryz.underlying88 Tryz.underlying5 Tryz.underlying9 (Kd.own_of_R HO_3.out)
       go_wp2
       go_ret
       exact ⟨eR_, bw_ HB⟩}}
 {
 rw [if_neg c2] at H
 exact absurd H (by simp)
}
mutual
def impl_Sum.l0 : Nat → Int → List Int → Int → Int → Option (Int)
 | 0, _, _, _, _ => none
 | k + 1, x3, x6, x7, x8 => if x8 < x7 then (if 0 ≤ x8 then (if x8 < (x6.length : Int) then (impl_Sum.l0 k (IntKind.u64.wrap ((Go.bits .xor .u64 x3 (IntKind.u64.wrap (rd x6 x8))) * 1099511628211)) x6 x7 (wrap64 (x8 + 1))) else (none)) else (none)) else (impl_Sum.l1 k x3 0)
def impl_Sum.l1 : Nat → Int → Int → Option (Int)
 | 0, _, _ => none
 | k + 1, x3, x18 => if x18 < 3 then (impl_Sum.l1 k (IntKind.u64.wrap ((Go.bits .xor .u64 x3 (x3 / 536870912)) * 11400714819323198485)) (wrap64 (x18 + 1))) else (some (Go.bits .xor .u64 x3 (x3 / 4294967296)))
end
def impl_Sum.f (k : Nat) (l0 : List Int) : Option (Int) := impl_Sum.l0 k 14695981039346656037 l0 (l0.length : Int) 0
theorem impl_Sum.mono_l : ∀ k, (∀ y0 y1 y2 y3, LeO (impl_Sum.l0 k y0 y1 y2 y3) (impl_Sum.l0 (k + 1) y0 y1 y2 y3)) ∧ (∀ y0 y1, LeO (impl_Sum.l1 k y0 y1) (impl_Sum.l1 (k + 1) y0 y1))
 | 0 => ⟨fun _ _ _ _ r h => by simp [impl_Sum.l0] at h, fun _ _ r h => by simp [impl_Sum.l1] at h⟩
 | k + 1 => by
      obtain ⟨ih0, ih1⟩ := impl_Sum.mono_l k
      refine ⟨?_, ?_⟩
      {
      intro y0 y1 y2 y3
      unfold impl_Sum.l0
      repeat' first
      | (with_reducible exact ih0 _ _ _ _)
      | (with_reducible exact ih1 _ _)
      | (with_reducible exact LeO.refl _)
      | (with_reducible exact LeO.none _)
      | (with_reducible refine LeO.ite ?_ ?_)
      | (with_reducible refine LeO.bind ?_ (fun _ => ?_))
      | exact ih0 _ _ _ _
      | exact ih1 _ _
      | exact LeO.none _
      | refine LeO.ite ?_ ?_
      | refine LeO.bind ?_ (fun _ => ?_)}
      {
      intro y0 y1
      unfold impl_Sum.l1
      repeat' first
      | (with_reducible exact ih0 _ _ _ _)
      | (with_reducible exact ih1 _ _)
      | (with_reducible exact LeO.refl _)
      | (with_reducible exact LeO.none _)
      | (with_reducible refine LeO.ite ?_ ?_)
      | (with_reducible refine LeO.bind ?_ (fun _ => ?_))
      | exact ih0 _ _ _ _
      | exact ih1 _ _
      | exact LeO.none _
      | refine LeO.ite ?_ ?_
      | refine LeO.bind ?_ (fun _ => ?_)}
theorem impl_Sum.mono : ∀ a0 k, LeO (impl_Sum.f k a0) (impl_Sum.f (k + 1) a0) := by
 intro a0 k
 obtain ⟨ih0, ih1⟩ := impl_Sum.mono_l k
 unfold impl_Sum.f
 repeat' first
  | (with_reducible exact ih0 _ _ _ _)
  | (with_reducible exact ih1 _ _)
  | (with_reducible exact LeO.refl _)
  | (with_reducible exact LeO.none _)
  | (with_reducible refine LeO.ite ?_ ?_)
  | (with_reducible refine LeO.bind ?_ (fun _ => ?_))
  | exact ih0 _ _ _ _
  | exact ih1 _ _
  | exact LeO.none _
  | refine LeO.ite ?_ ?_
  | refine LeO.bind ?_ (fun _ => ?_)
theorem impl_Sum.calls (k : Nat) (A0 : Option Addr) (c0 : Nat) (l0 : List Int) (r : Int) (w : World) (hr0 : Kd.C (Kd.int .u8) w A0 l0.length l0) (hc0 : l0.length ≤ c0) (h : impl_Sum.f k l0 = some r) :
 Calls Tryz.prog 80 #[.slice A0 l0.length c0] w fun e w' => e = .returned (.int .u64 r) ∧ Drawn0 w w' := by
 have HR0 := Aside0.mk hr0
 have HC0 := Aside0.mk hc0
 clear hr0 hc0
 have H : (impl_Sum.l0 k 14695981039346656037 l0 (l0.length : Int) 0) = some r := h
 clear h
 have H' := Aside0.mk H
 clear H
 go_enter Tryz.func80, Tryz.ntmps80
 go_wp2
 go_loopg [3, 8] k (fun kq v3 v8 w' => ∃ (x3_1 : Int) (x8_1 : Int), v3 = .int .u64 x3_1 ∧ v8 = .int .i64 x8_1 ∧ Aside0 (impl_Sum.l0 kq x3_1 l0 (l0.length : Int) x8_1 = some r) ∧ Aside0 (kq ≤ k) ∧ Drawn0 w w')
 case atStart => exact ⟨(14695981039346656037), (0), (by first | rfl | (simp; done) | (simp [*]; done)), (by first | rfl | (simp; done) | (simp [*]; done)), H', ⟨Nat.le_refl _⟩, dR_⟩
 case round =>
  clear H'
  obtain ⟨x3_1, x8_1, rfl, rfl, HA, HK1, ⟨m1, rfl⟩⟩ := hrel
  cases gk with
  | zero => exact absurd HA.out (by simp [impl_Sum.l0])
  | succ k1 =>
       have H := HA.out
       clear HA
       simp only [impl_Sum.l0] at H
       by_cases c2 : x8_1 < (l0.length : Int)
       {
       rw [if_pos c2] at H
       have c2b0 := decide_eq_true c2
       clear c2
       by_cases c3 : 0 ≤ x8_1
       {
       rw [if_pos c3] at H
       have c3b0 := decide_eq_true c3
       clear c3
       by_cases c4 : x8_1 < (l0.length : Int)
       {
       rw [if_pos c4] at H
       have c4b0 := decide_eq_true c4
       clear c4
       have H' := Aside0.mk H
       clear H
       have p377 : 0 ≤ (x8_1 : Int) := dA_
       have q377 : x8_1 < (l0.length : Int) := dA_
       obtain ⟨ad377, e377, hx377_0⟩ := Kd.at_int HR0.out x8_1 p377 q377
       cases e377
       replace p377 := eq_true p377
       replace q377 := eq_true q377
       go_wp2
       go_roundg k1
       case measure => have := HK1.out; omega
       case rel => exact ⟨(IntKind.u64.wrap ((Go.bits .xor .u64 x3_1 (IntKind.u64.wrap (rd l0 x8_1))) * 1099511628211)), (wrap64 (x8_1 + 1)), (by first | rfl | (simp; done) | (simp [*]; done)), (by first | rfl | (simp; done) | (simp [*]; done)), H', ⟨by have := HK1.out; omega⟩, dR_⟩}
       {
       rw [if_neg c4] at H
       exact absurd H (by simp)}}
       {
       rw [if_neg c3] at H
       exact absurd H (by simp)}}
       {
       rw [if_neg c2] at H
       have c2b0 := decide_eq_false c2
       clear c2
       have H' := Aside0.mk H
       clear H
       go_wp2
       go_loopg [3, 18] k1 (fun kq v3 v18 w' => ∃ (x3_2 : Int) (x18_2 : Int), v3 = .int .u64 x3_2 ∧ v18 = .int .i64 x18_2 ∧ Aside0 (impl_Sum.l1 kq x3_2 x18_2 = some r) ∧ Aside0 (kq ≤ k1) ∧ Drawn0 w w')
       case atStart => exact ⟨(x3_1), (0), (by first | rfl | (simp; done) | (simp [*]; done)), (by first | rfl | (simp; done) | (simp [*]; done)), H', ⟨Nat.le_refl _⟩, dR_⟩
       case round =>
        clear H'
        try clear c2
        try clear c2b0
        try clear p2
        try clear c3
        try clear c3b0
        try clear p3
        try clear q3
        try clear hx3
        try clear c4
        try clear c4b0
        try clear hx377_0
        try clear p377
        try clear q377
        obtain ⟨x3_2, x18_2, rfl, rfl, HA, HK2, ⟨m2, rfl⟩⟩ := hrel
        cases gk with
        | zero => exact absurd HA.out (by simp [impl_Sum.l1])
        | succ k2 =>
             have H := HA.out
             clear HA
             simp only [impl_Sum.l1] at H
             by_cases c5 : x18_2 < 3
             {
             rw [if_pos c5] at H
             have c5b0 := decide_eq_true c5
             clear c5
             have H' := Aside0.mk H
             clear H
             go_wp2
             go_roundg k2
             case measure => have := HK1.out; have := HK2.out; omega
             case rel => exact ⟨(IntKind.u64.wrap ((Go.bits .xor .u64 x3_2 (x3_2 / 536870912)) * 11400714819323198485)), (wrap64 (x18_2 + 1)), (by first | rfl | (simp; done) | (simp [*]; done)), (by first | rfl | (simp; done) | (simp [*]; done)), H', ⟨by have := HK1.out; have := HK2.out; omega⟩, dR_⟩}
             {
             rw [if_neg c5] at H
             have c5b0 := decide_eq_false c5
             clear c5
             obtain rfl := Option.some.inj H
             go_wp2
             go_ret
             exact ⟨eS_, dR_⟩
}}
def impl_varint.l0 : Nat → List Int → Int → Option (List Int)
 | 0, _, _ => none
 | k + 1, x0, x1 => if x1 > 127 then (if x0.length < 140737488355328 then (impl_varint.l0 k (x0 ++ [(Go.bits .or .i64 (Go.bits .and .i64 x1 127) 128) % 256]) (x1 / 128)) else (none)) else (if x0.length < 140737488355328 then (some (x0 ++ [(x1) % 256])) else (none))
def impl_varint.f (k : Nat) (l0 : List Int) (a1 : Int) : Option (List Int) := impl_varint.l0 k l0 a1
theorem impl_varint.mono_l : ∀ k, (∀ y0 y1, LeO (impl_varint.l0 k y0 y1) (impl_varint.l0 (k + 1) y0 y1))
 | 0 => fun _ _ r h => by simp [impl_varint.l0] at h
 | k + 1 => by
      have ih0 := impl_varint.mono_l k
      {
      intro y0 y1
      unfold impl_varint.l0
      repeat' first
      | (with_reducible exact ih0 _ _)
      | (with_reducible exact LeO.refl _)
      | (with_reducible exact LeO.none _)
      | (with_reducible refine LeO.ite ?_ ?_)
      | (with_reducible refine LeO.bind ?_ (fun _ => ?_))
      | exact ih0 _ _
      | exact LeO.none _
      | refine LeO.ite ?_ ?_
      | refine LeO.bind ?_ (fun _ => ?_)}
theorem impl_varint.mono : ∀ a0 a1 k, LeO (impl_varint.f k a0 a1) (impl_varint.f (k + 1) a0 a1) := by
 intro a0 a1 k
 have ih0 := impl_varint.mono_l k
 unfold impl_varint.f
 repeat' first
  | (with_reducible exact ih0 _ _)
  | (with_reducible exact LeO.refl _)
  | (with_reducible exact LeO.none _)
  | (with_reducible refine LeO.ite ?_ ?_)
  | (with_reducible refine LeO.bind ?_ (fun _ => ?_))
  | exact ih0 _ _
  | exact LeO.none _
  | refine LeO.ite ?_ ?_
  | refine LeO.bind ?_ (fun _ => ?_)
theorem impl_varint.calls (k : Nat) (P0_ : Nat → Prop) (u9000_ : Value) (l0 : List Int) (a1 : Int) (r : List Int) (w0 w : World) (hB : Below w0.heap.size w0 w) (ho0 : Kd.R (Kd.int .u8) 5 w w0.heap.size P0_ u9000_ l0) (h : impl_varint.f k l0 a1 = some r) :
 Calls Tryz.prog 100 #[u9000_, .int .i64 a1] w fun e w' => ∃ v0_ : Value, e = .returned (v0_) ∧ Kd.R (Kd.int .u8) 5 w' w0.heap.size (fun k_ => (P0_ k_ ∨ w.heap.size ≤ k_)) v0_ r ∧ Below w0.heap.size w0 w' ∧ Kept w w' (fun k_ => P0_ k_) := by
 have HO0 := Aside0.mk (show Kd.R (Kd.int .u8) 5 w w0.heap.size (fun k_ => (P0_ k_ ∨ w.heap.size ≤ k_)) u9000_ l0 from Kd.R_mono ho0 (fun k_ hk => (.inl hk)))
 have HK := Aside0.mk (Kept.refl w (fun k_ => P0_ k_))
 have HW0 := Aside0.mk hB.size
 have HB := Aside0.mk hB
 clear hB
 have H : (impl_varint.l0 k l0 a1) = some r := h
 clear h
 have H' := Aside0.mk H
 clear H
 go_enter Tryz.func100, Tryz.ntmps100
 go_wp2
 go_loopg [0, 1] k (fun kq v0 v1 w' => ∃ (x0_1 : List Int) (x1_1 : Int), v1 = .int .i64 x1_1 ∧ Aside0 (impl_varint.l0 kq x0_1 x1_1 = some r) ∧ Aside0 (kq ≤ k) ∧ Aside0 (Kd.R (Kd.int .u8) 5 w' w0.heap.size (fun k_ => (P0_ k_ ∨ w.heap.size ≤ k_)) v0 x0_1) ∧ Aside0 (Kept w w' (fun k_ => P0_ k_)) ∧ Aside0 (Below w0.heap.size w0 w'))
 case atStart => exact ⟨(l0), (a1), (by first | rfl | (simp; done) | (simp [*]; done)), H', ⟨Nat.le_refl _⟩, ⟨kr_ HO0⟩, ⟨by repeat (first | (with_reducible first | exact HK.out | apply Kept.alloc | apply Kept.drewN | apply Kept.drew) | exact HK.out)⟩, ⟨bw_ HB⟩⟩
 case round =>
  clear H'
  try clear c1
  try clear p2
  obtain ⟨x0_1, x1_1, rfl, HA, HK1, HO_0, HK, HB⟩ := hrel
  cases gk with
  | zero => exact absurd HA.out (by simp [impl_varint.l0])
  | succ k1 =>
       have H := HA.out
       clear HA
       simp only [impl_varint.l0] at H
       by_cases c3 : x1_1 > 127
       {
       rw [if_pos c3] at H
       have c3b0 : decide (127 < x1_1) = true := decide_eq_true c3
       clear c3
       by_cases c4 : x0_1.length < 140737488355328
       {
       rw [if_pos c4] at H
       have LMc4 := Aside0.mk c4
       clear c4
       obtain ⟨y378, hy378⟩ : ∃ y_ : List Int, y_ = (x0_1 ++ [(Go.bits .or .i64 (Go.bits .and .i64 x1_1 127) 128) % 256]) := ⟨_, rfl⟩
       replace H : (impl_varint.l0 k1 y378 (x1_1 / 128)) = some r := rH_ hy378 H
       have Ny378 := Aside0.mk hy378
       clear hy378
       have H' := Aside0.mk H
       clear H
       go_wp2_with (first | ((with_reducible refine gate_builtin (b := .append) (xs := #[.tmp 7, .tmp 12]) rfl ?_); at_builtin; refine Kd.R_append (Kd.int .u8) (w0 := w0) w0.heap.size rfl (.tmp 7) (.tmp 12) 88 5 (.int .u8 0) 1 rfl Tryz.underlying88 info5 rfl (by decide) (by omega) u0 x0_1 ((Go.bits .or .i64 (Go.bits .and .i64 x1_1 127) 128) % 256) [.int .u8 ((Go.bits .or .i64 (Go.bits .and .i64 x1_1 127) 128) % 256)] (fun k_ => (P0_ k_ ∨ w.heap.size ≤ k_)) (fun _ => False) rfl rfl ?aP (fun _ hk => hk.elim) ?aF ?aO ?aB ?aS ?aL ?_; (case aP => exact rfl); (case aB => exact (bw_ HB)); (case aF => exact (fun k_ hk => (.inr (Nat.le_trans (by first | exact HK.out.1 | exact (show Kept w _ (fun k_ => P0_ k_) from by repeat (first | (with_reducible first | exact HK.out | apply Kept.alloc | apply Kept.drewN | apply Kept.drew) | exact HK.out)).1) hk)))); (case aO => exact (kr_ HO_0)); (case aS => exact (below_size (bw_ HB))); (case aL => have := LMc4.out; omega); intro v379 w5 ho hb hg hat; rw [← Ny378.out] at ho; replace HB := Aside0.mk (hb); replace HK := Aside0.mk (Kept.of_grown (S := (fun k_ => P0_ k_)) hg (by repeat (first | (with_reducible first | exact HK.out | apply Kept.alloc | apply Kept.drewN | apply Kept.drew) | exact HK.out)) (fun k_ e_ => (HO_0.out.1 k_ e_))); have HO380 := Aside0.mk (ho); clear HO_0; clear ho hb hg hat))
       go_roundg k1
       case measure => have := HK1.out; omega
       case rel => exact ⟨(y378), (x1_1 / 128), (by first | rfl | (simp; done) | (simp [*]; done)), H', ⟨by have := HK1.out; omega⟩, ⟨kr_ HO380⟩, ⟨by repeat (first | (with_reducible first | exact HK.out | apply Kept.alloc | apply Kept.drewN | apply Kept.drew) | exact HK.out)⟩, ⟨bw_ HB⟩⟩}
       {
       rw [if_neg c4] at H
       exact absurd H (by simp)}}
       {
       rw [if_neg c3] at H
       have c3b0 : decide (127 < x1_1) = false := decide_eq_false c3
       clear c3
       by_cases c6 : x0_1.length < 140737488355328
       {
       rw [if_pos c6] at H
       have LMc6 := Aside0.mk c6
       clear c6
       obtain ⟨y381, hy381⟩ : ∃ y_ : List Int, y_ = (x0_1 ++ [(x1_1) % 256]) := ⟨_, rfl⟩
       replace H : (some y381) = some r := rH_ hy381 H
       have Ny381 := Aside0.mk hy381
       clear hy381
       obtain rfl := Option.some.inj H
       go_wp2_with (first | ((with_reducible refine gate_builtin (b := .append) (xs := #[.tmp 16, .tmp 19]) rfl ?_); at_builtin; refine Kd.R_append (Kd.int .u8) (w0 := w0) w0.heap.size rfl (.tmp 16) (.tmp 19) 88 5 (.int .u8 0) 1 rfl Tryz.underlying88 info5 rfl (by decide) (by omega) u0 x0_1 ((x1_1) % 256) [.int .u8 ((x1_1) % 256)] (fun k_ => (P0_ k_ ∨ w.heap.size ≤ k_)) (fun _ => False) rfl rfl ?aP (fun _ hk => hk.elim) ?aF ?aO ?aB ?aS ?aL ?_; (case aP => exact rfl); (case aB => exact (bw_ HB)); (case aF => exact (fun k_ hk => (.inr (Nat.le_trans (by first | exact HK.out.1 | exact (show Kept w _ (fun k_ => P0_ k_) from by repeat (first | (with_reducible first | exact HK.out | apply Kept.alloc | apply Kept.drewN | apply Kept.drew) | exact HK.out)).1) hk)))); (case aO => exact (kr_ HO_0)); (case aS => exact (below_size (bw_ HB))); (case aL => have := LMc6.out; omega); intro v382 w7 ho hb hg hat; rw [← Ny381.out] at ho; replace HB := Aside0.mk (hb); replace HK := Aside0.mk (Kept.of_grown (S := (fun k_ => P0_ k_)) hg (by repeat (first | (with_reducible first | exact HK.out | apply Kept.alloc | apply Kept.drewN | apply Kept.drew) | exact HK.out)) (fun k_ e_ => (HO_0.out.1 k_ e_))); have HO383 := Aside0.mk (ho); clear HO_0; clear ho hb hg hat))
       go_ret
       exact ⟨_, eR_, kr_ HO383, bw_ HB, by repeat (first | (with_reducible first | exact HK.out | apply Kept.alloc | apply Kept.drewN | apply Kept.drew) | exact HK.out)⟩}
       {
       rw [if_neg c6] at H
       exact absurd H (by simp)
}}
theorem impl_varint.callsZ (k : Nat) (P0_ : Nat → Prop) (u9000_ : Value) (l0 : List Int) (a1 : Int) (r : List Int) (w0 w : World) (hB : Below w0.heap.size w0 w) (ho0 : Kd.Z (Kd.int .u8) 5 w w0.heap.size P0_ u9000_ l0) (h : impl_varint.f k l0 a1 = some r) :
 Calls Tryz.prog 100 #[u9000_, .int .i64 a1] w fun e w' => ∃ v0_ : Value, e = .returned (v0_) ∧ Kd.R (Kd.int .u8) 5 w' w0.heap.size (fun k_ => (P0_ k_ ∨ w.heap.size ≤ k_)) v0_ r ∧ Below w0.heap.size w0 w' ∧ Kept w w' (fun k_ => P0_ k_) := by
 have HO0 := Aside0.mk (show Kd.Z (Kd.int .u8) 5 w w0.heap.size (fun k_ => (P0_ k_ ∨ w.heap.size ≤ k_)) u9000_ l0 from Kd.Z_mono ho0 (fun k_ hk => (.inl hk)))
 have HK := Aside0.mk (Kept.refl w (fun k_ => P0_ k_))
 have HW0 := Aside0.mk hB.size
 have HB := Aside0.mk hB
 clear hB
 have H : (impl_varint.l0 k l0 a1) = some r := h
 clear h
 have H' := Aside0.mk H
 clear H
 go_enter Tryz.func100, Tryz.ntmps100
 go_wp2
 go_loopg [0, 1] k (fun kq v0 v1 w' => ∃ (x0_1 : List Int) (x1_1 : Int), v1 = .int .i64 x1_1 ∧ Aside0 (impl_varint.l0 kq x0_1 x1_1 = some r) ∧ Aside0 (kq ≤ k) ∧ Aside0 (Kd.Z (Kd.int .u8) 5 w' w0.heap.size (fun k_ => (P0_ k_ ∨ w.heap.size ≤ k_)) v0 x0_1) ∧ Aside0 (Kept w w' (fun k_ => P0_ k_)) ∧ Aside0 (Below w0.heap.size w0 w'))
 case atStart => exact ⟨(l0), (a1), (by first | rfl | (simp; done) | (simp [*]; done)), H', ⟨Nat.le_refl _⟩, ⟨HO0.out⟩, ⟨by repeat (first | (with_reducible first | exact HK.out | apply Kept.alloc | apply Kept.drewN | apply Kept.drew) | exact HK.out)⟩, ⟨bw_ HB⟩⟩
 case round =>
  clear H'
  try clear c1
  try clear p2
  obtain ⟨x0_1, x1_1, rfl, HA, HK1, HO_0, HK, HB⟩ := hrel
  cases gk with
  | zero => exact absurd HA.out (by simp [impl_varint.l0])
  | succ k1 =>
       have H := HA.out
       clear HA
       simp only [impl_varint.l0] at H
       by_cases c3 : x1_1 > 127
       {
       rw [if_pos c3] at H
       have c3b0 : decide (127 < x1_1) = true := decide_eq_true c3
       clear c3
       by_cases c4 : x0_1.length < 140737488355328
       {
       rw [if_pos c4] at H
       have LMc4 := Aside0.mk c4
       clear c4
       obtain ⟨y378, hy378⟩ : ∃ y_ : List Int, y_ = (x0_1 ++ [(Go.bits .or .i64 (Go.bits .and .i64 x1_1 127) 128) % 256]) := ⟨_, rfl⟩
       replace H : (impl_varint.l0 k1 y378 (x1_1 / 128)) = some r := rH_ hy378 H
       have Ny378 := Aside0.mk hy378
       clear hy378
       have H' := Aside0.mk H
       clear H
       go_wp2_with (first | ((with_reducible refine gate_builtin (b := .append) (xs := #[.tmp 7, .tmp 12]) rfl ?_); at_builtin; refine Kd.Z_append (Kd.int .u8) (w0 := w0) w0.heap.size rfl (.tmp 7) (.tmp 12) 88 5 (.int .u8 0) 1 rfl Tryz.underlying88 info5 rfl (by decide) (by omega) u0 x0_1 ((Go.bits .or .i64 (Go.bits .and .i64 x1_1 127) 128) % 256) [.int .u8 ((Go.bits .or .i64 (Go.bits .and .i64 x1_1 127) 128) % 256)] (fun k_ => (P0_ k_ ∨ w.heap.size ≤ k_)) (fun _ => False) rfl rfl ?aP (fun _ hk => hk.elim) ?aF ?aO ?aB ?aS ?aL rfl ?_; (case aP => exact rfl); (case aB => exact (bw_ HB)); (case aF => exact (fun k_ hk => (.inr (Nat.le_trans (by first | exact HK.out.1 | exact (show Kept w _ (fun k_ => P0_ k_) from by repeat (first | (with_reducible first | exact HK.out | apply Kept.alloc | apply Kept.drewN | apply Kept.drew) | exact HK.out)).1) hk)))); (case aO => exact (by (with_reducible repeat (first | apply Kd.R_alloc | apply Kd.R_drewN | apply Kd.R_drew)); exact HO_0.out)); (case aS => exact (below_size (bw_ HB))); (case aL => have := LMc4.out; omega); intro v379 w5 ho hb hg hat; rw [← Ny378.out] at ho; replace HB := Aside0.mk (hb); replace HK := Aside0.mk (Kept.of_grown (S := (fun k_ => P0_ k_)) hg (by repeat (first | (with_reducible first | exact HK.out | apply Kept.alloc | apply Kept.drewN | apply Kept.drew) | exact HK.out)) (fun k_ e_ => (Kd.Z_ok HO_0.out k_ e_))); have HO380 := Aside0.mk (ho); clear HO_0; clear ho hb hg hat))
       go_roundg k1
       case measure => have := HK1.out; omega
       case rel => exact ⟨(y378), (x1_1 / 128), (by first | rfl | (simp; done) | (simp [*]; done)), H', ⟨by have := HK1.out; omega⟩, ⟨Kd.Z_of (by (with_reducible repeat (first | apply Kd.R_alloc | apply Kd.R_drewN | apply Kd.R_drew)); exact HO380.out)⟩, ⟨by repeat (first | (with_reducible first | exact HK.out | apply Kept.alloc | apply Kept.drewN | apply Kept.drew) | exact HK.out)⟩, ⟨bw_ HB⟩⟩}
       {
       rw [if_neg c4] at H
       exact absurd H (by simp)}}
       {
       rw [if_neg c3] at H
       have c3b0 : decide (127 < x1_1) = false := decide_eq_false c3
       clear c3
       by_cases c6 : x0_1.length < 140737488355328
       {
       rw [if_pos c6] at H
       have LMc6 := Aside0.mk c6
       clear c6
       obtain ⟨y381, hy381⟩ : ∃ y_ : List Int, y_ = (x0_1 ++ [(x1_1) % 256]) := ⟨_, rfl⟩
       replace H : (some y381) = some r := rH_ hy381 H
       have Ny381 := Aside0.mk hy381
       clear hy381
       obtain rfl := Option.some.inj H
       go_wp2_with (first | ((with_reducible refine gate_builtin (b := .append) (xs := #[.tmp 16, .tmp 19]) rfl ?_); at_builtin; refine Kd.Z_append (Kd.int .u8) (w0 := w0) w0.heap.size rfl (.tmp 16) (.tmp 19) 88 5 (.int .u8 0) 1 rfl Tryz.underlying88 info5 rfl (by decide) (by omega) u0 x0_1 ((x1_1) % 256) [.int .u8 ((x1_1) % 256)] (fun k_ => (P0_ k_ ∨ w.heap.size ≤ k_)) (fun _ => False) rfl rfl ?aP (fun _ hk => hk.elim) ?aF ?aO ?aB ?aS ?aL rfl ?_; (case aP => exact rfl); (case aB => exact (bw_ HB)); (case aF => exact (fun k_ hk => (.inr (Nat.le_trans (by first | exact HK.out.1 | exact (show Kept w _ (fun k_ => P0_ k_) from by repeat (first | (with_reducible first | exact HK.out | apply Kept.alloc | apply Kept.drewN | apply Kept.drew) | exact HK.out)).1) hk)))); (case aO => exact (by (with_reducible repeat (first | apply Kd.R_alloc | apply Kd.R_drewN | apply Kd.R_drew)); exact HO_0.out)); (case aS => exact (below_size (bw_ HB))); (case aL => have := LMc6.out; omega); intro v382 w7 ho hb hg hat; rw [← Ny381.out] at ho; replace HB := Aside0.mk (hb); replace HK := Aside0.mk (Kept.of_grown (S := (fun k_ => P0_ k_)) hg (by repeat (first | (with_reducible first | exact HK.out | apply Kept.alloc | apply Kept.drewN | apply Kept.drew) | exact HK.out)) (fun k_ e_ => (Kd.Z_ok HO_0.out k_ e_))); have HO383 := Aside0.mk (ho); clear HO_0; clear ho hb hg hat))
       go_ret
       exact ⟨_, eR_, by (with_reducible repeat (first | apply Kd.R_alloc | apply Kd.R_drewN | apply Kd.R_drew)); exact HO383.out, bw_ HB, by repeat (first | (with_reducible first | exact HK.out | apply Kept.alloc | apply Kept.drewN | apply Kept.drew) | exact HK.out)⟩}
       {
       rw [if_neg c6] at H
       exact absurd H (by simp)
}}
def impl_PackTree.l0 : Nat → List Int → List (S57) → Int → Int → Option (List Int)
 | 0, _, _, _, _ => none
 | k + 1, x3, x15, x16, x17 => if x17 < x16 then (if 0 ≤ x17 then (if x17 < (x15.length : Int) then (if (rd_T57 x15 x17).f3 = true then (if x3.length < 140737488355328 then ((impl_varint.f k (x3 ++ [((((rd_T57 x15 x17).f1) % 256) + 16) % 256]) (((rd_T57 x15 x17).f0).size : Int)).bind fun t396 => (if t396.length + ((rd_T57 x15 x17).f0).size < 140737488355328 then ((impl_varint.f k (t396 ++ bytesOf ((rd_T57 x15 x17).f0)) (((rd_T57 x15 x17).f2).size : Int)).bind fun t402 => (if t402.length + ((rd_T57 x15 x17).f2).size < 140737488355328 then (impl_PackTree.l0 k (t402 ++ bytesOf ((rd_T57 x15 x17).f2)) x15 x16 (wrap64 (x17 + 1))) else (none))) else (none))) else (none)) else (if x3.length < 140737488355328 then ((impl_varint.f k (x3 ++ [((rd_T57 x15 x17).f1) % 256]) (((rd_T57 x15 x17).f0).size : Int)).bind fun t411 => (if t411.length + ((rd_T57 x15 x17).f0).size < 140737488355328 then ((impl_varint.f k (t411 ++ bytesOf ((rd_T57 x15 x17).f0)) (((rd_T57 x15 x17).f2).size : Int)).bind fun t417 => (if t417.length + ((rd_T57 x15 x17).f2).size < 140737488355328 then (impl_PackTree.l0 k (t417 ++ bytesOf ((rd_T57 x15 x17).f2)) x15 x16 (wrap64 (x17 + 1))) else (none))) else (none))) else (none))) else (none)) else (none)) else (some x3)
def impl_PackTree.f (k : Nat) (l0 : List (S57)) : Option (List Int) := (impl_TreeOk.f k l0).bind fun t384 => (if t384 = true then ((impl_varint.f k (([76, 65, 82, 49] : List Int)) (l0.length : Int)).bind fun t388 => (impl_PackTree.l0 k t388 l0 (l0.length : Int) 0)) else (some ([] : List Int)))
theorem impl_PackTree.mono_l : ∀ k, (∀ y0 y1 y2 y3, LeO (impl_PackTree.l0 k y0 y1 y2 y3) (impl_PackTree.l0 (k + 1) y0 y1 y2 y3))
 | 0 => fun _ _ _ _ r h => by simp [impl_PackTree.l0] at h
 | k + 1 => by
      have ih0 := impl_PackTree.mono_l k
      {
      intro y0 y1 y2 y3
      unfold impl_PackTree.l0
      repeat' first
      | (with_reducible exact ih0 _ _ _ _)
      | (with_reducible exact impl_TreeOk.mono _ _)
      | (with_reducible exact impl_varint.mono _ _ _)
      | (with_reducible exact LeO.refl _)
      | (with_reducible exact LeO.none _)
      | (with_reducible refine LeO.ite ?_ ?_)
      | (with_reducible refine LeO.bind ?_ (fun _ => ?_))
      | exact ih0 _ _ _ _
      | exact impl_TreeOk.mono _ _
      | exact impl_varint.mono _ _ _
      | exact LeO.none _
      | refine LeO.ite ?_ ?_
      | refine LeO.bind ?_ (fun _ => ?_)}
theorem impl_PackTree.mono : ∀ a0 k, LeO (impl_PackTree.f k a0) (impl_PackTree.f (k + 1) a0) := by
 intro a0 k
 have ih0 := impl_PackTree.mono_l k
 unfold impl_PackTree.f
 repeat' first
  | (with_reducible exact ih0 _ _ _ _)
  | (with_reducible exact impl_TreeOk.mono _ _)
  | (with_reducible exact impl_varint.mono _ _ _)
  | (with_reducible exact LeO.refl _)
  | (with_reducible exact LeO.none _)
  | (with_reducible refine LeO.ite ?_ ?_)
  | (with_reducible refine LeO.bind ?_ (fun _ => ?_))
  | exact ih0 _ _ _ _
  | exact impl_TreeOk.mono _ _
  | exact impl_varint.mono _ _ _
  | exact LeO.none _
  | refine LeO.ite ?_ ?_
  | refine LeO.bind ?_ (fun _ => ?_)
def impl_PackTree.T10 : Bool × List (List Nat × List Nat) := (true, [([], []), ([], []), ([1], [1]), ([0, 2], [0, 2]), ([], []), ([4], [4]), ([5], [5]), ([3, 6, 3], [3, 6]), ([], []), ([8], [8]), ([7, 9, 7], [7, 9]), ([10, 10, 0, 1, 2, 3, 4, 5, 6, 7, 8, 9, 10], [0, 10])])
def impl_PackTree.B10 : List Nat := [0, 0, 2, 7, 0, 16, 48, 127, 0, 256, 1023, 2047]
theorem impl_PackTree.tab10 : rtab .any (opsOf Tryz.f81 10) = impl_PackTree.T10 := by kernel_rfl
theorem impl_PackTree.bits10 : waitsOk impl_PackTree.T10.2 impl_PackTree.B10 = true := by kernel_rfl
def impl_PackTree.T11 : Bool × List (List Nat × List Nat) := (true, [([], []), ([], []), ([1], [1]), ([2], [2]), ([0, 3], [0, 3]), ([], []), ([5], [5]), ([4, 6, 4], [4, 6]), ([7, 7, 0, 1, 2, 3, 4, 5, 6, 7], [0, 7])])
def impl_PackTree.B11 : List Nat := [0, 0, 2, 6, 15, 0, 32, 127, 255]
theorem impl_PackTree.tab11 : rtab .any (opsOf Tryz.f81 11) = impl_PackTree.T11 := by kernel_rfl
theorem impl_PackTree.bits11 : waitsOk impl_PackTree.T11.2 impl_PackTree.B11 = true := by kernel_rfl
theorem impl_PackTree.calls (k : Nat) (A0 : Option Addr) (c0 : Nat) (l0 : List (S57)) (r : List Int) (w : World) (hE : EnvW w) (hr0 : Kd.C k57 w A0 l0.length l0) (hc0 : l0.length ≤ c0) (h : impl_PackTree.f k l0 = some r) :
 Calls Tryz.prog 81 #[.slice A0 l0.length c0] w fun e w' => ∃ v0_ : Value, e = .returned (v0_) ∧ Kd.R (Kd.int .u8) 5 w' w.heap.size (fun _ => True) v0_ r ∧ Below w.heap.size w w' := by
 have hu57 := Tryz.underlying57
 have HE := Aside0.mk hE
 clear hE
 have HR0 := Aside0.mk hr0
 have HC0 := Aside0.mk hc0
 clear hr0 hc0
 have HB := Aside0.mk (Below.refl w.heap.size w)
 have H : ((impl_TreeOk.f k l0).bind fun t384 => (if t384 = true then ((impl_varint.f k (([76, 65, 82, 49] : List Int)) (l0.length : Int)).bind fun t388 => (impl_PackTree.l0 k t388 l0 (l0.length : Int) 0)) else (some ([] : List Int)))) = some r := h
 clear h
 replace H := Option.bind_eq_some_iff.mp H
 obtain ⟨t384, A20, H⟩ := H
 have A2 := Aside0.mk A20
 clear A20
 by_cases c3 : t384 = true
 {
 subst c3
 rw [if_pos rfl] at H
 obtain ⟨y385, hy385⟩ : ∃ y_ : List Int, y_ = (([76, 65, 82, 49] : List Int)) := ⟨_, rfl⟩
 replace H : ((impl_varint.f k y385 (l0.length : Int)).bind fun t388 => (impl_PackTree.l0 k t388 l0 (l0.length : Int) 0)) = some r := rH_ hy385 H
 have Ny385 := Aside0.mk hy385
 clear hy385
 replace H := Option.bind_eq_some_iff.mp H
 obtain ⟨t388, A40, H⟩ := H
 have A4 := Aside0.mk A40
 clear A40
 have H' := Aside0.mk H
 clear H
 go_enter Tryz.func81, Tryz.ntmps81
 go_wp2_with (first | ((with_reducible refine gate_callee (f := 77) rfl ?_); refine gL_ (some 8) Tryz.func77 #[.slice A0 l0.length c0] ?_; (with_reducible refine (impl_TreeOk.calls k _ _ l0 true _ ?side1 ?side2 ?side3 A2.out).mono ?_); (case side1 => refine EnvW.below HE.out ?_; repeat (first | (with_reducible first | exact HB.out | apply below_alloc | apply pw_below_drewN | apply below_drew1) | exact HB.out)); (case side2 => repeat (first | exact HR0.out | (with_reducible refine Kd.C_alloc ?_ _) | (with_reducible refine Kd.C_drewN ?_ _) | (with_reducible refine Kd.C_drew ?_))); (case side3 => exact HC0.out); rintro e w5 ⟨rfl, hb⟩; refine ⟨_, rfl, ?_⟩; replace HB := Aside0.mk (below_step (bw_ HB) hb); clear hb) | ((with_reducible refine gate_dst (N := 10) rfl ?_); refine Kd.Z_litc (Kd.int .u8) _ 5 ?hg (N := 10) ?hd (xs := ([76, 65, 82, 49] : List Int)) (inner := [.int .u8 76, .int .u8 65, .int .u8 82, .int .u8 49]) (ok := fun _ => True) (okp := fun _ => True) ?hr ?hp (fun _ hk => hk) trivial (Below.refl _ _) (Nat.le_refl _) (by simp) rfl rfl 88 rfl Tryz.underlying88 Tryz.underlying5 ?hev ?_; (case hev => intro u_; rfl); (case hd => rfl); (case hg => rfl); (case hr => first | (go_simp; done) | (go_simp; rfl)); (case hp => exact (Reps.one (show Kd.M (Kd.int .u8) _ _ _ 76 [.int .u8 76] from rfl) (Reps.one (show Kd.M (Kd.int .u8) _ _ _ 65 [.int .u8 65] from rfl) (Reps.one (show Kd.M (Kd.int .u8) _ _ _ 82 [.int .u8 82] from rfl) (Reps.one (show Kd.M (Kd.int .u8) _ _ _ 49 [.int .u8 49] from rfl) (Reps.none _ _)))))); intro v386 w6 ho7 hb hg_ hnew_; clear hg_ hnew_; (first | rw [← Ny385.out] at ho7 | (simp only [Int.reduceToNat] at ho7; rw [← Ny385.out] at ho7)); have HO387 := Aside0.mk (Kd.Z_lower ho7 (below_size (bw_ HB))); replace HB := Aside0.mk (below_step (bw_ HB) hb); clear hb ho7; obtain ⟨Ao8, co8, eo8⟩ := Kd.Z_slice HO387.out; subst eo8) | ((with_reducible refine gate_callee (f := 100) rfl ?_); refine gL_ (some 14) Tryz.func100 #[.slice Ao8 y385.length co8, .int .i64 (l0.length : Int)] ?_; (with_reducible refine (impl_varint.callsZ k (fun k_ => some k_ = (.slice Ao8 y385.length co8 : Value).ownBlock) (.slice Ao8 y385.length co8) y385 (l0.length : Int) t388 w _ ?side1 ?side2 A4.out).mono ?_); (case side1 => repeat (first | (with_reducible first | exact HB.out | apply below_alloc | apply pw_below_drewN | apply below_drew1) | exact HB.out)); (case side2 => exact Kd.Z_tight rfl HO387.out); rintro e w9 ⟨v389, rfl, ho0, hb, hkp⟩; refine ⟨_, rfl, ?_⟩; have HO390 := Aside0.mk (Kd.R_mono (ok' := fun k_ => True) ho0 (fun k_ hk_ => trivial)); replace HB := Aside0.mk (hb); clear HO387; (try clear hb); (try clear hkp); (try clear ho0)))
 go_loopg [3, 17] k (fun kq v3 v17 w' => ∃ (x3_1 : List Int) (x17_1 : Int), v17 = .int .i64 x17_1 ∧ Aside0 (impl_PackTree.l0 kq x3_1 l0 (l0.length : Int) x17_1 = some r) ∧ Aside0 (kq ≤ k) ∧ Aside0 (Kd.R (Kd.int .u8) 5 w' w.heap.size (fun _ => True) v3 x3_1) ∧ Aside0 (Below w.heap.size w w'))
 case atStart => exact ⟨(t388), (0), (by first | rfl | (simp; done) | (simp [*]; done)), H', ⟨Nat.le_refl _⟩, ⟨kr_ HO390⟩, ⟨bw_ HB⟩⟩
 case round =>
  clear H'
  try clear c1
  try clear p2
  try clear c3
  try clear c7
  try clear c8
  obtain ⟨x3_1, x17_1, rfl, HA, HK1, HO_3, HB⟩ := hrel
  cases gk with
  | zero => exact absurd HA.out (by simp [impl_PackTree.l0])
  | succ k1 =>
       have H := HA.out
       clear HA
       simp only [impl_PackTree.l0] at H
       by_cases c10 : x17_1 < (l0.length : Int)
       {
       rw [if_pos c10] at H
       have c10b0 := decide_eq_true c10
       clear c10
       by_cases c11 : 0 ≤ x17_1
       {
       rw [if_pos c11] at H
       have c11b0 := decide_eq_true c11
       clear c11
       by_cases c12 : x17_1 < (l0.length : Int)
       {
       rw [if_pos c12] at H
       have c12b0 := decide_eq_true c12
       clear c12
       obtain ⟨bq13, hbq13⟩ : ∃ b_ : Bool, b_ = ((rd_T57 l0 x17_1).f3) := ⟨_, rfl⟩
       replace H : (if bq13 = true then (if x3_1.length < 140737488355328 then ((impl_varint.f k1 (x3_1 ++ [((((rd_T57 l0 x17_1).f1) % 256) + 16) % 256]) (((rd_T57 l0 x17_1).f0).size : Int)).bind fun t396 => (if t396.length + ((rd_T57 l0 x17_1).f0).size < 140737488355328 then ((impl_varint.f k1 (t396 ++ bytesOf ((rd_T57 l0 x17_1).f0)) (((rd_T57 l0 x17_1).f2).size : Int)).bind fun t402 => (if t402.length + ((rd_T57 l0 x17_1).f2).size < 140737488355328 then (impl_PackTree.l0 k1 (t402 ++ bytesOf ((rd_T57 l0 x17_1).f2)) l0 (l0.length : Int) (wrap64 (x17_1 + 1))) else (none))) else (none))) else (none)) else (if x3_1.length < 140737488355328 then ((impl_varint.f k1 (x3_1 ++ [((rd_T57 l0 x17_1).f1) % 256]) (((rd_T57 l0 x17_1).f0).size : Int)).bind fun t411 => (if t411.length + ((rd_T57 l0 x17_1).f0).size < 140737488355328 then ((impl_varint.f k1 (t411 ++ bytesOf ((rd_T57 l0 x17_1).f0)) (((rd_T57 l0 x17_1).f2).size : Int)).bind fun t417 => (if t417.length + ((rd_T57 l0 x17_1).f2).size < 140737488355328 then (impl_PackTree.l0 k1 (t417 ++ bytesOf ((rd_T57 l0 x17_1).f2)) l0 (l0.length : Int) (wrap64 (x17_1 + 1))) else (none))) else (none))) else (none))) = some r := by rw [← hbq13] at H; exact H
       have Nbq13 := Aside0.mk hbq13
       clear hbq13
       by_cases c14 : bq13 = true
       {
       subst c14
       rw [if_pos rfl] at H
       by_cases c15 : x3_1.length < 140737488355328
       {
       rw [if_pos c15] at H
       have LMc15 := Aside0.mk c15
       clear c15
       obtain ⟨y393, hy393⟩ : ∃ y_ : List Int, y_ = (x3_1 ++ [((((rd_T57 l0 x17_1).f1) % 256) + 16) % 256]) := ⟨_, rfl⟩
       replace H : ((impl_varint.f k1 y393 (((rd_T57 l0 x17_1).f0).size : Int)).bind fun t396 => (if t396.length + ((rd_T57 l0 x17_1).f0).size < 140737488355328 then ((impl_varint.f k1 (t396 ++ bytesOf ((rd_T57 l0 x17_1).f0)) (((rd_T57 l0 x17_1).f2).size : Int)).bind fun t402 => (if t402.length + ((rd_T57 l0 x17_1).f2).size < 140737488355328 then (impl_PackTree.l0 k1 (t402 ++ bytesOf ((rd_T57 l0 x17_1).f2)) l0 (l0.length : Int) (wrap64 (x17_1 + 1))) else (none))) else (none))) = some r := rH_ hy393 H
       have Ny393 := Aside0.mk hy393
       clear hy393
       replace H := Option.bind_eq_some_iff.mp H
       obtain ⟨t396, A160, H⟩ := H
       have A16 := Aside0.mk A160
       clear A160
       by_cases c17 : t396.length + ((rd_T57 l0 x17_1).f0).size < 140737488355328
       {
       rw [if_pos c17] at H
       have LMc17 := Aside0.mk c17
       clear c17
       obtain ⟨y399, hy399⟩ : ∃ y_ : List Int, y_ = (t396 ++ bytesOf ((rd_T57 l0 x17_1).f0)) := ⟨_, rfl⟩
       replace H : ((impl_varint.f k1 y399 (((rd_T57 l0 x17_1).f2).size : Int)).bind fun t402 => (if t402.length + ((rd_T57 l0 x17_1).f2).size < 140737488355328 then (impl_PackTree.l0 k1 (t402 ++ bytesOf ((rd_T57 l0 x17_1).f2)) l0 (l0.length : Int) (wrap64 (x17_1 + 1))) else (none))) = some r := rH_ hy399 H
       have Ny399 := Aside0.mk hy399
       clear hy399
       replace H := Option.bind_eq_some_iff.mp H
       obtain ⟨t402, A180, H⟩ := H
       have A18 := Aside0.mk A180
       clear A180
       by_cases c19 : t402.length + ((rd_T57 l0 x17_1).f2).size < 140737488355328
       {
       rw [if_pos c19] at H
       have LMc19 := Aside0.mk c19
       clear c19
       obtain ⟨y405, hy405⟩ : ∃ y_ : List Int, y_ = (t402 ++ bytesOf ((rd_T57 l0 x17_1).f2)) := ⟨_, rfl⟩
       replace H : (impl_PackTree.l0 k1 y405 l0 (l0.length : Int) (wrap64 (x17_1 + 1))) = some r := rH_ hy405 H
       have Ny405 := Aside0.mk hy405
       clear hy405
       have H' := Aside0.mk H
       clear H
       have p391 : 0 ≤ (x17_1 : Int) := dA_
       have q391 : x17_1 < (l0.length : Int) := dA_
       obtain ⟨ad391, e391, hx391_0, hx391_1, hx391_2, hx391_3⟩ := at_T57 HR0.out x17_1 p391 q391
       (try rw [← Nbq13.out] at hx391_3)
       cases e391
       replace hx391_0 := hX_ HB hx391_0
       replace hx391_1 := hX_ HB hx391_1
       replace hx391_2 := hX_ HB hx391_2
       replace hx391_3 := hX_ HB hx391_3
       replace p391 := eq_true p391
       replace q391 := eq_true q391
       try go_wp2_with (first | ((with_reducible refine gate_dst (N := 5) rfl ?_); refine bE_ 5 #[.string (⟨#[]⟩ : ByteArray), .int .i64 0, .string (⟨#[]⟩ : ByteArray), .bool false] 57 ?_; intro gb392 hg w20 hbox hb; replace HO_3 := Aside0.mk (Kd.R_below (kr_ HO_3) hb); have BK392 := Aside0.mk (hbox); have GW392 := Aside0.mk (ge_ hg (bw_ HB)); have GE392 := Aside0.mk (ge_ hg (bw_ HB)); replace HB := Aside0.mk (below_step (bw_ HB) hb); clear hb hbox hg; have hcz21_0 := cz_ BK392 0 (.string (⟨#[]⟩ : ByteArray)); have hcz21_1 := cz_ BK392 1 (.int .i64 0); have hcz21_2 := cz_ BK392 2 (.string (⟨#[]⟩ : ByteArray)); have hcz21_3 := cz_ BK392 3 (.bool false); have hfz21_0 := blk_frozen BK392.out 0; have hfz21_1 := blk_frozen BK392.out 1; have hfz21_2 := blk_frozen BK392.out 2; have hfz21_3 := blk_frozen BK392.out 3))
       have n0_ : Aside0 (Kd.R (Kd.int .u8) 5 ((((w20.setCell ⟨gb392, 0, none⟩ (.string ((rd_T57 l0 x17_1).f0))).setCell ⟨gb392, 1, none⟩ (.int .i64 ((rd_T57 l0 x17_1).f1))).setCell ⟨gb392, 2, none⟩ (.string ((rd_T57 l0 x17_1).f2))).setCell ⟨gb392, 3, none⟩ (.bool true)) w.heap.size (fun _ => True) u3 x3_1) := ⟨by (with_reducible repeat (first | apply Kd.R_alloc | apply Kd.R_drewN | apply Kd.R_drew)); exact Kd.R_mono (Kd.R_far (p := ⟨gb392, 3, none⟩) (Kd.R_far (p := ⟨gb392, 2, none⟩) (Kd.R_far (p := ⟨gb392, 1, none⟩) (Kd.R_far (p := ⟨gb392, 0, none⟩) (Kd.R_types HO_3.out BK392.out (by decide)) (fun _ hk => hk.2) (.string ((rd_T57 l0 x17_1).f0))) (fun _ hk => hk.2) (.int .i64 ((rd_T57 l0 x17_1).f1))) (fun _ hk => hk.2) (.string ((rd_T57 l0 x17_1).f2))) (fun _ hk => hk.2) (.bool true)) (fun _ hk => trivial)⟩
       have n1_ : Aside0 (((((w20.setCell ⟨gb392, 0, none⟩ (.string ((rd_T57 l0 x17_1).f0))).setCell ⟨gb392, 1, none⟩ (.int .i64 ((rd_T57 l0 x17_1).f1))).setCell ⟨gb392, 2, none⟩ (.string ((rd_T57 l0 x17_1).f2))).setCell ⟨gb392, 3, none⟩ (.bool true)).heap[gb392]? = some (.cells #[.string ((rd_T57 l0 x17_1).f0), .int .i64 ((rd_T57 l0 x17_1).f1), .string ((rd_T57 l0 x17_1).f2), .bool true] 57 (0, 0))) := ⟨by (with_reducible repeat (first | refine blk_drewN ?_ _ | refine blk_drew ?_ | refine blk_alloc ?_ _)); refine blk_put (cs := #[.string ((rd_T57 l0 x17_1).f0), .int .i64 ((rd_T57 l0 x17_1).f1), .string ((rd_T57 l0 x17_1).f2), .bool false]) ?_ 3 _ rfl; (with_reducible repeat (first | refine blk_drewN ?_ _ | refine blk_drew ?_ | refine blk_alloc ?_ _)); refine blk_put (cs := #[.string ((rd_T57 l0 x17_1).f0), .int .i64 ((rd_T57 l0 x17_1).f1), .string (⟨#[]⟩ : ByteArray), .bool false]) ?_ 2 _ rfl; (with_reducible repeat (first | refine blk_drewN ?_ _ | refine blk_drew ?_ | refine blk_alloc ?_ _)); refine blk_put (cs := #[.string ((rd_T57 l0 x17_1).f0), .int .i64 0, .string (⟨#[]⟩ : ByteArray), .bool false]) ?_ 1 _ rfl; (with_reducible repeat (first | refine blk_drewN ?_ _ | refine blk_drew ?_ | refine blk_alloc ?_ _)); refine blk_put (cs := #[.string (⟨#[]⟩ : ByteArray), .int .i64 0, .string (⟨#[]⟩ : ByteArray), .bool false]) ?_ 0 _ rfl; (with_reducible repeat (first | refine blk_drewN ?_ _ | refine blk_drew ?_ | refine blk_alloc ?_ _)); exact BK392.out⟩
       have n2_ : Aside0 (Below w.heap.size w ((((w20.setCell ⟨gb392, 0, none⟩ (.string ((rd_T57 l0 x17_1).f0))).setCell ⟨gb392, 1, none⟩ (.int .i64 ((rd_T57 l0 x17_1).f1))).setCell ⟨gb392, 2, none⟩ (.string ((rd_T57 l0 x17_1).f2))).setCell ⟨gb392, 3, none⟩ (.bool true))) := ⟨bw1_ HB GE392⟩
       (try rw [← Nbq13.out])
       (try clear HO_3)
       (try clear BK392)
       (try clear HB)
       generalize ((((w20.setCell ⟨gb392, 0, none⟩ (.string ((rd_T57 l0 x17_1).f0))).setCell ⟨gb392, 1, none⟩ (.int .i64 ((rd_T57 l0 x17_1).f1))).setCell ⟨gb392, 2, none⟩ (.string ((rd_T57 l0 x17_1).f2))).setCell ⟨gb392, 3, none⟩ (.bool true)) = w22 at n0_ n1_ n2_ ⊢
       have HO_3 := n0_
       have BK392 := n1_
       have HB := n2_
       clear n0_ n1_ n2_
       replace HO_3 := Aside0.mk (Kd.R_drew HO_3.out)
       replace BK392 := Aside0.mk (blk_drew BK392.out)
       replace HB := Aside0.mk (below_drew1 HB.out)
       refine start_ (n := 12) (S := fun w' => w'.cell? ⟨gb392, 0, none⟩ = some (.string ((rd_T57 l0 x17_1).f0)) ∧ w'.cell? ⟨gb392, 1, none⟩ = some (.int .i64 ((rd_T57 l0 x17_1).f1)) ∧ w'.cell? ⟨gb392, 2, none⟩ = some (.string ((rd_T57 l0 x17_1).f2)) ∧ w'.cell? ⟨gb392, 3, none⟩ = some (.bool true)) (ds := []) (bs_ 12 0) (by kernel_rfl) rfl (by kernel_rfl) ⟨(blk_cell BK392.out 0).trans rfl, (blk_cell BK392.out 1).trans rfl, (blk_cell BK392.out 2).trans rfl, (blk_cell BK392.out 3).trans rfl⟩ (fun hHeld => ?_); refine with_tabW impl_PackTree.tab10 impl_PackTree.bits10 (fun HT_ HW_ => ?_)
       generalize w22.drew = w23 at HO_3 BK392 HB hHeld ⊢
       refine pS_ 0 ?_
       refine pS_ 1 ?_
       refine pS_ 4 ?_
       refine pS_ 8 ?_
       refine t4_ 5 hHeld ?_
       refine pS_ 6 ?_
       refine t4_ 9 hHeld ?_
       refine oS_ 2 (fun K hK => ?_)
       refine value_ (w1 := ?_) (v := ?_) (by rfl) rfl ?_ ?_
       rotate_left 2
       {
       go_simp
       constructor
       {
       rfl}
       {
       rfl}}
       refine hK.out _ _ ⟨(blk_cell (blk_alloc BK392.out _) 0).trans rfl, (blk_cell (blk_alloc BK392.out _) 1).trans rfl, (blk_cell (blk_alloc BK392.out _) 2).trans rfl, (blk_cell (blk_alloc BK392.out _) 3).trans rfl⟩ (fun hHeld => ?_)
       clear hK K
       refine nS_ 30 ?_
       refine oS_ 3 (fun K hK => ?_)
       refine Kd.R_append_step (Kd.int .u8) (w0 := w) w.heap.size (by rfl) (.tmp 28) (.tmp 30) 88 5 (.int .u8 0) 1 rfl Tryz.underlying88 info5 rfl (by decide) (by omega) u3 x3_1 ((((rd_T57 l0 x17_1).f1) + 16) % 256) [.int .u8 ((((rd_T57 l0 x17_1).f1) + 16) % 256)] (fun _ => True) (fun _ => False) rfl rfl ?aP (fun _ hk => hk.elim) ?aF ?aO ?aB ?aS ?aL ?_
       (case aP => exact rfl)
       (case aB => exact (bw1_ HB GE392))
       (case aF => exact (fun _ _ => trivial))
       (case aO => exact (kr_ HO_3))
       (case aS => exact (below_size (bw1_ HB GE392)))
       (case aL => have := LMc15.out; omega)
       intro v394 w24 ho hb hg hat
       (try simp only [Int.emod_add_emod] at Ny393)
       rw [← Ny393.out] at ho
       replace BK392 := Aside0.mk (blk_grown (g := gb392) (o := .cells #[.string ((rd_T57 l0 x17_1).f0), .int .i64 ((rd_T57 l0 x17_1).f1), .string ((rd_T57 l0 x17_1).f2), .bool true] 57 (0, 0)) (bk_ BK392) hg (Kd.R_ne HO_3.out BK392.out (by decide)))
       replace HB := Aside0.mk (hb)
       have HO395 := Aside0.mk (ho)
       clear HO_3
       clear ho hb hg hat
       obtain ⟨Ao25, co25, eo25⟩ := Kd.R_slice HO395.out
       (first | subst eo25 | (injection eo25 with f1_ f2_ f3_; have f4_ := f1_.symm; have f5_ := f3_.symm; clear f1_ f2_ f3_; subst f4_; subst f5_))
       refine hK.out _ _ ⟨(blk_cell BK392.out 0).trans rfl, (blk_cell BK392.out 1).trans rfl, (blk_cell BK392.out 2).trans rfl, (blk_cell BK392.out 3).trans rfl⟩ (fun hHeld => ?_)
       clear hK K
       refine nS_ 31 ?_
       refine oS_ 7 (fun K hK => ?_)
       refine gS_ Tryz.func100 #[.slice Ao25 y393.length co25, .int .i64 (((rd_T57 l0 x17_1).f0).size : Int)] ?_
       with_reducible refine (impl_varint.calls k1 (fun k_ => some k_ = (.slice Ao25 y393.length co25 : Value).ownBlock) (.slice Ao25 y393.length co25) y393 (((rd_T57 l0 x17_1).f0).size : Int) t396 w _ ?side1 ?side2 A16.out).mono ?_
       (case side1 => repeat (first | (with_reducible first | exact HB.out | apply below_alloc | apply pw_below_drewN | apply below_drew1 | refine below_set ?_ GE392.out) | exact HB.out))
       (case side2 => exact Kd.R_tight rfl HO395.out)
       rintro e w26 ⟨v397, rfl, ho0, hb, hkp⟩
       refine ⟨_, rfl, ?_⟩
       replace BK392 := Aside0.mk (blk_kept (bk_ BK392) hkp (fun hs_ => (fun e_ => (Kd.R_ne HO395.out BK392.out (by decide)) e_) hs_))
       have HO398 := Aside0.mk (Kd.R_mono (ok' := fun k_ => True) ho0 (fun k_ hk_ => trivial))
       replace HB := Aside0.mk (hb)
       clear HO395
       (try clear hb)
       (try clear hkp)
       (try clear ho0)
       refine hK.out _ _ ⟨(blk_cell BK392.out 0).trans rfl, (blk_cell BK392.out 1).trans rfl, (blk_cell BK392.out 2).trans rfl, (blk_cell BK392.out 3).trans rfl⟩ (fun hHeld => ?_)
       clear hK K
       refine nS_ 35 ?_
       refine oS_ 10 (fun K hK => ?_)
       refine print_append_str_step (w0 := w) w.heap.size (by rfl) (.tmp 35) _ 88 9 5 rfl Tryz.underlying88 Tryz.underlying9 info5 v397 t396 ((rd_T57 l0 x17_1).f0) rfl rfl ?aO ?aB ?aS ?aL ?_
       (case aB => exact (bw1_ HB GE392))
       (case aO => exact (Kd.own_of_R (kr_ HO398)))
       (case aS => exact (below_size (bw1_ HB GE392)))
       (case aL => have := LMc17.out; omega)
       intro v400 w27 ho0 hb hg
       have ho := Kd.R_of_own (h1 := fun _ => rfl) (ok := fun _ => True) ho0 (fun _ _ => trivial)
       clear ho0
       have hat := True.intro
       rw [← Ny399.out] at ho
       change Kd.R (Kd.int .u8) 5 w27 w.heap.size (fun _ => True) v400 y399 at ho
       replace BK392 := Aside0.mk (blk_grown (g := gb392) (o := .cells #[.string ((rd_T57 l0 x17_1).f0), .int .i64 ((rd_T57 l0 x17_1).f1), .string ((rd_T57 l0 x17_1).f2), .bool true] 57 (0, 0)) (bk_ BK392) hg (Kd.R_ne HO398.out BK392.out (by decide)))
       replace HB := Aside0.mk (hb)
       have HO401 := Aside0.mk (ho)
       clear HO398
       clear ho hb hg hat
       refine hK.out _ _ ⟨(blk_cell BK392.out 0).trans rfl, (blk_cell BK392.out 1).trans rfl, (blk_cell BK392.out 2).trans rfl, (blk_cell BK392.out 3).trans rfl⟩ (fun hHeld => ?_)
       clear hK K
       refine nS_ 38 ?_
       refine pS_ 11 ?_
       refine done_ (done_of HT_.out (by kernel_rfl)) ?_
       try go_wp2
       replace HO401 := Aside0.mk (Kd.R_drew HO401.out)
       replace BK392 := Aside0.mk (blk_drew BK392.out)
       replace HB := Aside0.mk (below_drew1 HB.out)
       obtain ⟨Ao29, co29, eo29⟩ := Kd.R_slice HO401.out
       (first | subst eo29 | (injection eo29 with f1_ f2_ f3_; have f4_ := f1_.symm; have f5_ := f3_.symm; clear f1_ f2_ f3_; subst f4_; subst f5_))
       refine start_ (n := 9) (S := fun w' => w'.cell? ⟨gb392, 0, none⟩ = some (.string ((rd_T57 l0 x17_1).f0)) ∧ w'.cell? ⟨gb392, 1, none⟩ = some (.int .i64 ((rd_T57 l0 x17_1).f1)) ∧ w'.cell? ⟨gb392, 2, none⟩ = some (.string ((rd_T57 l0 x17_1).f2)) ∧ w'.cell? ⟨gb392, 3, none⟩ = some (.bool true)) (ds := []) (bs_ 9 0) (by kernel_rfl) rfl (by kernel_rfl) ⟨(blk_cell BK392.out 0).trans rfl, (blk_cell BK392.out 1).trans rfl, (blk_cell BK392.out 2).trans rfl, (blk_cell BK392.out 3).trans rfl⟩ (fun hHeld => ?_); refine with_tabW impl_PackTree.tab11 impl_PackTree.bits11 (fun HT_ HW_ => ?_)
       generalize w27.drew = w28 at HO401 BK392 HB hHeld ⊢
       refine pS_ 0 ?_
       refine pS_ 1 ?_
       refine pS_ 5 ?_
       refine t4_ 2 hHeld ?_
       refine pS_ 3 ?_
       refine t4_ 6 hHeld ?_
       refine oS_ 4 (fun K hK => ?_)
       refine gS_ Tryz.func100 #[.slice Ao29 y399.length co29, .int .i64 (((rd_T57 l0 x17_1).f2).size : Int)] ?_
       with_reducible refine (impl_varint.calls k1 (fun k_ => some k_ = (.slice Ao29 y399.length co29 : Value).ownBlock) (.slice Ao29 y399.length co29) y399 (((rd_T57 l0 x17_1).f2).size : Int) t402 w _ ?side1 ?side2 A18.out).mono ?_
       (case side1 => repeat (first | (with_reducible first | exact HB.out | apply below_alloc | apply pw_below_drewN | apply below_drew1 | refine below_set ?_ GE392.out) | exact HB.out))
       (case side2 => exact Kd.R_tight rfl HO401.out)
       rintro e w30 ⟨v403, rfl, ho0, hb, hkp⟩
       refine ⟨_, rfl, ?_⟩
       replace BK392 := Aside0.mk (blk_kept (bk_ BK392) hkp (fun hs_ => (fun e_ => (Kd.R_ne HO401.out BK392.out (by decide)) e_) hs_))
       have HO404 := Aside0.mk (Kd.R_mono (ok' := fun k_ => True) ho0 (fun k_ hk_ => trivial))
       replace HB := Aside0.mk (hb)
       clear HO401
       (try clear hb)
       (try clear hkp)
       (try clear ho0)
       refine hK.out _ _ ⟨(blk_cell BK392.out 0).trans rfl, (blk_cell BK392.out 1).trans rfl, (blk_cell BK392.out 2).trans rfl, (blk_cell BK392.out 3).trans rfl⟩ (fun hHeld => ?_)
       clear hK K
       refine nS_ 43 ?_
       refine oS_ 7 (fun K hK => ?_)
       refine print_append_str_step (w0 := w) w.heap.size (by rfl) (.tmp 43) _ 88 9 5 rfl Tryz.underlying88 Tryz.underlying9 info5 v403 t402 ((rd_T57 l0 x17_1).f2) rfl rfl ?aO ?aB ?aS ?aL ?_
       (case aB => exact (bw1_ HB GE392))
       (case aO => exact (Kd.own_of_R (kr_ HO404)))
       (case aS => exact (below_size (bw1_ HB GE392)))
       (case aL => have := LMc19.out; omega)
       intro v406 w31 ho0 hb hg
       have ho := Kd.R_of_own (h1 := fun _ => rfl) (ok := fun _ => True) ho0 (fun _ _ => trivial)
       clear ho0
       have hat := True.intro
       rw [← Ny405.out] at ho
       change Kd.R (Kd.int .u8) 5 w31 w.heap.size (fun _ => True) v406 y405 at ho
       replace BK392 := Aside0.mk (blk_grown (g := gb392) (o := .cells #[.string ((rd_T57 l0 x17_1).f0), .int .i64 ((rd_T57 l0 x17_1).f1), .string ((rd_T57 l0 x17_1).f2), .bool true] 57 (0, 0)) (bk_ BK392) hg (Kd.R_ne HO404.out BK392.out (by decide)))
       replace HB := Aside0.mk (hb)
       have HO407 := Aside0.mk (ho)
       clear HO404
       clear ho hb hg hat
       refine hK.out _ _ ⟨(blk_cell BK392.out 0).trans rfl, (blk_cell BK392.out 1).trans rfl, (blk_cell BK392.out 2).trans rfl, (blk_cell BK392.out 3).trans rfl⟩ (fun hHeld => ?_)
       clear hK K
       refine nS_ 46 ?_
       refine pS_ 8 ?_
       refine done_ (done_of HT_.out (by kernel_rfl)) ?_
       try go_wp2
       go_roundg k1
       case measure => have := HK1.out; omega
       case rel => exact ⟨(y405), (wrap64 (x17_1 + 1)), (by first | rfl | (simp; done) | (simp [*]; done)), H', ⟨by have := HK1.out; omega⟩, ⟨kr_ HO407⟩, ⟨bw1_ HB GE392⟩⟩}
       {
       rw [if_neg c19] at H
       exact absurd H (by simp)}}
       {
       rw [if_neg c17] at H
       exact absurd H (by simp)}}
       {
       rw [if_neg c15] at H
       exact absurd H (by simp)}}
       {
       replace c14 := Bool.eq_false_iff.mpr c14
       subst c14
       rw [if_neg (show ¬ (false = true) by decide)] at H
       by_cases c32 : x3_1.length < 140737488355328
       {
       rw [if_pos c32] at H
       have LMc32 := Aside0.mk c32
       clear c32
       obtain ⟨y408, hy408⟩ : ∃ y_ : List Int, y_ = (x3_1 ++ [((rd_T57 l0 x17_1).f1) % 256]) := ⟨_, rfl⟩
       replace H : ((impl_varint.f k1 y408 (((rd_T57 l0 x17_1).f0).size : Int)).bind fun t411 => (if t411.length + ((rd_T57 l0 x17_1).f0).size < 140737488355328 then ((impl_varint.f k1 (t411 ++ bytesOf ((rd_T57 l0 x17_1).f0)) (((rd_T57 l0 x17_1).f2).size : Int)).bind fun t417 => (if t417.length + ((rd_T57 l0 x17_1).f2).size < 140737488355328 then (impl_PackTree.l0 k1 (t417 ++ bytesOf ((rd_T57 l0 x17_1).f2)) l0 (l0.length : Int) (wrap64 (x17_1 + 1))) else (none))) else (none))) = some r := rH_ hy408 H
       have Ny408 := Aside0.mk hy408
       clear hy408
       replace H := Option.bind_eq_some_iff.mp H
       obtain ⟨t411, A330, H⟩ := H
       have A33 := Aside0.mk A330
       clear A330
       by_cases c34 : t411.length + ((rd_T57 l0 x17_1).f0).size < 140737488355328
       {
       rw [if_pos c34] at H
       have LMc34 := Aside0.mk c34
       clear c34
       obtain ⟨y414, hy414⟩ : ∃ y_ : List Int, y_ = (t411 ++ bytesOf ((rd_T57 l0 x17_1).f0)) := ⟨_, rfl⟩
       replace H : ((impl_varint.f k1 y414 (((rd_T57 l0 x17_1).f2).size : Int)).bind fun t417 => (if t417.length + ((rd_T57 l0 x17_1).f2).size < 140737488355328 then (impl_PackTree.l0 k1 (t417 ++ bytesOf ((rd_T57 l0 x17_1).f2)) l0 (l0.length : Int) (wrap64 (x17_1 + 1))) else (none))) = some r := rH_ hy414 H
       have Ny414 := Aside0.mk hy414
       clear hy414
       replace H := Option.bind_eq_some_iff.mp H
       obtain ⟨t417, A350, H⟩ := H
       have A35 := Aside0.mk A350
       clear A350
       by_cases c36 : t417.length + ((rd_T57 l0 x17_1).f2).size < 140737488355328
       {
       rw [if_pos c36] at H
       have LMc36 := Aside0.mk c36
       clear c36
       obtain ⟨y420, hy420⟩ : ∃ y_ : List Int, y_ = (t417 ++ bytesOf ((rd_T57 l0 x17_1).f2)) := ⟨_, rfl⟩
       replace H : (impl_PackTree.l0 k1 y420 l0 (l0.length : Int) (wrap64 (x17_1 + 1))) = some r := rH_ hy420 H
       have Ny420 := Aside0.mk hy420
       clear hy420
       have H' := Aside0.mk H
       clear H
       have p391 : 0 ≤ (x17_1 : Int) := dA_
       have q391 : x17_1 < (l0.length : Int) := dA_
       obtain ⟨ad391, e391, hx391_0, hx391_1, hx391_2, hx391_3⟩ := at_T57 HR0.out x17_1 p391 q391
       (try rw [← Nbq13.out] at hx391_3)
       cases e391
       replace hx391_0 := hX_ HB hx391_0
       replace hx391_1 := hX_ HB hx391_1
       replace hx391_2 := hX_ HB hx391_2
       replace hx391_3 := hX_ HB hx391_3
       replace p391 := eq_true p391
       replace q391 := eq_true q391
       try go_wp2_with (first | ((with_reducible refine gate_dst (N := 5) rfl ?_); refine bE_ 5 #[.string (⟨#[]⟩ : ByteArray), .int .i64 0, .string (⟨#[]⟩ : ByteArray), .bool false] 57 ?_; intro gb392 hg w37 hbox hb; replace HO_3 := Aside0.mk (Kd.R_below (kr_ HO_3) hb); have BK392 := Aside0.mk (hbox); have GW392 := Aside0.mk (ge_ hg (bw_ HB)); have GE392 := Aside0.mk (ge_ hg (bw_ HB)); replace HB := Aside0.mk (below_step (bw_ HB) hb); clear hb hbox hg; have hcz38_0 := cz_ BK392 0 (.string (⟨#[]⟩ : ByteArray)); have hcz38_1 := cz_ BK392 1 (.int .i64 0); have hcz38_2 := cz_ BK392 2 (.string (⟨#[]⟩ : ByteArray)); have hcz38_3 := cz_ BK392 3 (.bool false); have hfz38_0 := blk_frozen BK392.out 0; have hfz38_1 := blk_frozen BK392.out 1; have hfz38_2 := blk_frozen BK392.out 2; have hfz38_3 := blk_frozen BK392.out 3))
       have n0_ : Aside0 (Kd.R (Kd.int .u8) 5 ((((w37.setCell ⟨gb392, 0, none⟩ (.string ((rd_T57 l0 x17_1).f0))).setCell ⟨gb392, 1, none⟩ (.int .i64 ((rd_T57 l0 x17_1).f1))).setCell ⟨gb392, 2, none⟩ (.string ((rd_T57 l0 x17_1).f2))).setCell ⟨gb392, 3, none⟩ (.bool false)) w.heap.size (fun _ => True) u3 x3_1) := ⟨by (with_reducible repeat (first | apply Kd.R_alloc | apply Kd.R_drewN | apply Kd.R_drew)); exact Kd.R_mono (Kd.R_far (p := ⟨gb392, 3, none⟩) (Kd.R_far (p := ⟨gb392, 2, none⟩) (Kd.R_far (p := ⟨gb392, 1, none⟩) (Kd.R_far (p := ⟨gb392, 0, none⟩) (Kd.R_types HO_3.out BK392.out (by decide)) (fun _ hk => hk.2) (.string ((rd_T57 l0 x17_1).f0))) (fun _ hk => hk.2) (.int .i64 ((rd_T57 l0 x17_1).f1))) (fun _ hk => hk.2) (.string ((rd_T57 l0 x17_1).f2))) (fun _ hk => hk.2) (.bool false)) (fun _ hk => trivial)⟩
       have n1_ : Aside0 (((((w37.setCell ⟨gb392, 0, none⟩ (.string ((rd_T57 l0 x17_1).f0))).setCell ⟨gb392, 1, none⟩ (.int .i64 ((rd_T57 l0 x17_1).f1))).setCell ⟨gb392, 2, none⟩ (.string ((rd_T57 l0 x17_1).f2))).setCell ⟨gb392, 3, none⟩ (.bool false)).heap[gb392]? = some (.cells #[.string ((rd_T57 l0 x17_1).f0), .int .i64 ((rd_T57 l0 x17_1).f1), .string ((rd_T57 l0 x17_1).f2), .bool false] 57 (0, 0))) := ⟨by (with_reducible repeat (first | refine blk_drewN ?_ _ | refine blk_drew ?_ | refine blk_alloc ?_ _)); refine blk_put (cs := #[.string ((rd_T57 l0 x17_1).f0), .int .i64 ((rd_T57 l0 x17_1).f1), .string ((rd_T57 l0 x17_1).f2), .bool false]) ?_ 3 _ rfl; (with_reducible repeat (first | refine blk_drewN ?_ _ | refine blk_drew ?_ | refine blk_alloc ?_ _)); refine blk_put (cs := #[.string ((rd_T57 l0 x17_1).f0), .int .i64 ((rd_T57 l0 x17_1).f1), .string (⟨#[]⟩ : ByteArray), .bool false]) ?_ 2 _ rfl; (with_reducible repeat (first | refine blk_drewN ?_ _ | refine blk_drew ?_ | refine blk_alloc ?_ _)); refine blk_put (cs := #[.string ((rd_T57 l0 x17_1).f0), .int .i64 0, .string (⟨#[]⟩ : ByteArray), .bool false]) ?_ 1 _ rfl; (with_reducible repeat (first | refine blk_drewN ?_ _ | refine blk_drew ?_ | refine blk_alloc ?_ _)); refine blk_put (cs := #[.string (⟨#[]⟩ : ByteArray), .int .i64 0, .string (⟨#[]⟩ : ByteArray), .bool false]) ?_ 0 _ rfl; (with_reducible repeat (first | refine blk_drewN ?_ _ | refine blk_drew ?_ | refine blk_alloc ?_ _)); exact BK392.out⟩
       have n2_ : Aside0 (Below w.heap.size w ((((w37.setCell ⟨gb392, 0, none⟩ (.string ((rd_T57 l0 x17_1).f0))).setCell ⟨gb392, 1, none⟩ (.int .i64 ((rd_T57 l0 x17_1).f1))).setCell ⟨gb392, 2, none⟩ (.string ((rd_T57 l0 x17_1).f2))).setCell ⟨gb392, 3, none⟩ (.bool false))) := ⟨bw1_ HB GE392⟩
       (try rw [← Nbq13.out])
       (try clear HO_3)
       (try clear BK392)
       (try clear HB)
       generalize ((((w37.setCell ⟨gb392, 0, none⟩ (.string ((rd_T57 l0 x17_1).f0))).setCell ⟨gb392, 1, none⟩ (.int .i64 ((rd_T57 l0 x17_1).f1))).setCell ⟨gb392, 2, none⟩ (.string ((rd_T57 l0 x17_1).f2))).setCell ⟨gb392, 3, none⟩ (.bool false)) = w39 at n0_ n1_ n2_ ⊢
       have HO_3 := n0_
       have BK392 := n1_
       have HB := n2_
       clear n0_ n1_ n2_
       replace HO_3 := Aside0.mk (Kd.R_drew HO_3.out)
       replace BK392 := Aside0.mk (blk_drew BK392.out)
       replace HB := Aside0.mk (below_drew1 HB.out)
       refine start_ (n := 12) (S := fun w' => w'.cell? ⟨gb392, 0, none⟩ = some (.string ((rd_T57 l0 x17_1).f0)) ∧ w'.cell? ⟨gb392, 1, none⟩ = some (.int .i64 ((rd_T57 l0 x17_1).f1)) ∧ w'.cell? ⟨gb392, 2, none⟩ = some (.string ((rd_T57 l0 x17_1).f2)) ∧ w'.cell? ⟨gb392, 3, none⟩ = some (.bool false)) (ds := []) (bs_ 12 0) (by kernel_rfl) rfl (by kernel_rfl) ⟨(blk_cell BK392.out 0).trans rfl, (blk_cell BK392.out 1).trans rfl, (blk_cell BK392.out 2).trans rfl, (blk_cell BK392.out 3).trans rfl⟩ (fun hHeld => ?_); refine with_tabW impl_PackTree.tab10 impl_PackTree.bits10 (fun HT_ HW_ => ?_)
       generalize w39.drew = w40 at HO_3 BK392 HB hHeld ⊢
       refine pS_ 0 ?_
       refine pS_ 1 ?_
       refine pS_ 4 ?_
       refine pS_ 8 ?_
       refine t4_ 5 hHeld ?_
       refine pS_ 6 ?_
       refine t4_ 9 hHeld ?_
       refine oS_ 2 (fun K hK => ?_)
       refine value_ (w1 := ?_) (v := ?_) (by rfl) rfl ?_ ?_
       rotate_left 2
       {
       go_simp
       constructor
       {
       rfl}
       {
       rfl}}
       refine hK.out _ _ ⟨(blk_cell (blk_alloc BK392.out _) 0).trans rfl, (blk_cell (blk_alloc BK392.out _) 1).trans rfl, (blk_cell (blk_alloc BK392.out _) 2).trans rfl, (blk_cell (blk_alloc BK392.out _) 3).trans rfl⟩ (fun hHeld => ?_)
       clear hK K
       refine nS_ 30 ?_
       refine oS_ 3 (fun K hK => ?_)
       refine Kd.R_append_step (Kd.int .u8) (w0 := w) w.heap.size (by rfl) (.tmp 28) (.tmp 30) 88 5 (.int .u8 0) 1 rfl Tryz.underlying88 info5 rfl (by decide) (by omega) u3 x3_1 (((rd_T57 l0 x17_1).f1) % 256) [.int .u8 (((rd_T57 l0 x17_1).f1) % 256)] (fun _ => True) (fun _ => False) rfl rfl ?aP (fun _ hk => hk.elim) ?aF ?aO ?aB ?aS ?aL ?_
       (case aP => exact rfl)
       (case aB => exact (bw1_ HB GE392))
       (case aF => exact (fun _ _ => trivial))
       (case aO => exact (kr_ HO_3))
       (case aS => exact (below_size (bw1_ HB GE392)))
       (case aL => have := LMc32.out; omega)
       intro v409 w41 ho hb hg hat
       rw [← Ny408.out] at ho
       replace BK392 := Aside0.mk (blk_grown (g := gb392) (o := .cells #[.string ((rd_T57 l0 x17_1).f0), .int .i64 ((rd_T57 l0 x17_1).f1), .string ((rd_T57 l0 x17_1).f2), .bool false] 57 (0, 0)) (bk_ BK392) hg (Kd.R_ne HO_3.out BK392.out (by decide)))
       replace HB := Aside0.mk (hb)
       have HO410 := Aside0.mk (ho)
       clear HO_3
       clear ho hb hg hat
       obtain ⟨Ao42, co42, eo42⟩ := Kd.R_slice HO410.out
       (first | subst eo42 | (injection eo42 with f1_ f2_ f3_; have f4_ := f1_.symm; have f5_ := f3_.symm; clear f1_ f2_ f3_; subst f4_; subst f5_))
       refine hK.out _ _ ⟨(blk_cell BK392.out 0).trans rfl, (blk_cell BK392.out 1).trans rfl, (blk_cell BK392.out 2).trans rfl, (blk_cell BK392.out 3).trans rfl⟩ (fun hHeld => ?_)
       clear hK K
       refine nS_ 31 ?_
       refine oS_ 7 (fun K hK => ?_)
       refine gS_ Tryz.func100 #[.slice Ao42 y408.length co42, .int .i64 (((rd_T57 l0 x17_1).f0).size : Int)] ?_
       with_reducible refine (impl_varint.calls k1 (fun k_ => some k_ = (.slice Ao42 y408.length co42 : Value).ownBlock) (.slice Ao42 y408.length co42) y408 (((rd_T57 l0 x17_1).f0).size : Int) t411 w _ ?side1 ?side2 A33.out).mono ?_
       (case side1 => repeat (first | (with_reducible first | exact HB.out | apply below_alloc | apply pw_below_drewN | apply below_drew1 | refine below_set ?_ GE392.out) | exact HB.out))
       (case side2 => exact Kd.R_tight rfl HO410.out)
       rintro e w43 ⟨v412, rfl, ho0, hb, hkp⟩
       refine ⟨_, rfl, ?_⟩
       replace BK392 := Aside0.mk (blk_kept (bk_ BK392) hkp (fun hs_ => (fun e_ => (Kd.R_ne HO410.out BK392.out (by decide)) e_) hs_))
       have HO413 := Aside0.mk (Kd.R_mono (ok' := fun k_ => True) ho0 (fun k_ hk_ => trivial))
       replace HB := Aside0.mk (hb)
       clear HO410
       (try clear hb)
       (try clear hkp)
       (try clear ho0)
       refine hK.out _ _ ⟨(blk_cell BK392.out 0).trans rfl, (blk_cell BK392.out 1).trans rfl, (blk_cell BK392.out 2).trans rfl, (blk_cell BK392.out 3).trans rfl⟩ (fun hHeld => ?_)
       clear hK K
       refine nS_ 35 ?_
       refine oS_ 10 (fun K hK => ?_)
       refine print_append_str_step (w0 := w) w.heap.size (by rfl) (.tmp 35) _ 88 9 5 rfl Tryz.underlying88 Tryz.underlying9 info5 v412 t411 ((rd_T57 l0 x17_1).f0) rfl rfl ?aO ?aB ?aS ?aL ?_
       (case aB => exact (bw1_ HB GE392))
       (case aO => exact (Kd.own_of_R (kr_ HO413)))
       (case aS => exact (below_size (bw1_ HB GE392)))
       (case aL => have := LMc34.out; omega)
       intro v415 w44 ho0 hb hg
       have ho := Kd.R_of_own (h1 := fun _ => rfl) (ok := fun _ => True) ho0 (fun _ _ => trivial)
       clear ho0
       have hat := True.intro
       rw [← Ny414.out] at ho
       change Kd.R (Kd.int .u8) 5 w44 w.heap.size (fun _ => True) v415 y414 at ho
       replace BK392 := Aside0.mk (blk_grown (g := gb392) (o := .cells #[.string ((rd_T57 l0 x17_1).f0), .int .i64 ((rd_T57 l0 x17_1).f1), .string ((rd_T57 l0 x17_1).f2), .bool false] 57 (0, 0)) (bk_ BK392) hg (Kd.R_ne HO413.out BK392.out (by decide)))
       replace HB := Aside0.mk (hb)
       have HO416 := Aside0.mk (ho)
       clear HO413
       clear ho hb hg hat
       refine hK.out _ _ ⟨(blk_cell BK392.out 0).trans rfl, (blk_cell BK392.out 1).trans rfl, (blk_cell BK392.out 2).trans rfl, (blk_cell BK392.out 3).trans rfl⟩ (fun hHeld => ?_)
       clear hK K
       refine nS_ 38 ?_
       refine pS_ 11 ?_
       refine done_ (done_of HT_.out (by kernel_rfl)) ?_
       try go_wp2
       replace HO416 := Aside0.mk (Kd.R_drew HO416.out)
       replace BK392 := Aside0.mk (blk_drew BK392.out)
       replace HB := Aside0.mk (below_drew1 HB.out)
       obtain ⟨Ao46, co46, eo46⟩ := Kd.R_slice HO416.out
       (first | subst eo46 | (injection eo46 with f1_ f2_ f3_; have f4_ := f1_.symm; have f5_ := f3_.symm; clear f1_ f2_ f3_; subst f4_; subst f5_))
       refine start_ (n := 9) (S := fun w' => w'.cell? ⟨gb392, 0, none⟩ = some (.string ((rd_T57 l0 x17_1).f0)) ∧ w'.cell? ⟨gb392, 1, none⟩ = some (.int .i64 ((rd_T57 l0 x17_1).f1)) ∧ w'.cell? ⟨gb392, 2, none⟩ = some (.string ((rd_T57 l0 x17_1).f2)) ∧ w'.cell? ⟨gb392, 3, none⟩ = some (.bool false)) (ds := []) (bs_ 9 0) (by kernel_rfl) rfl (by kernel_rfl) ⟨(blk_cell BK392.out 0).trans rfl, (blk_cell BK392.out 1).trans rfl, (blk_cell BK392.out 2).trans rfl, (blk_cell BK392.out 3).trans rfl⟩ (fun hHeld => ?_); refine with_tabW impl_PackTree.tab11 impl_PackTree.bits11 (fun HT_ HW_ => ?_)
       generalize w44.drew = w45 at HO416 BK392 HB hHeld ⊢
       refine pS_ 0 ?_
       refine pS_ 1 ?_
       refine pS_ 5 ?_
       refine t4_ 2 hHeld ?_
       refine pS_ 3 ?_
       refine t4_ 6 hHeld ?_
       refine oS_ 4 (fun K hK => ?_)
       refine gS_ Tryz.func100 #[.slice Ao46 y414.length co46, .int .i64 (((rd_T57 l0 x17_1).f2).size : Int)] ?_
       with_reducible refine (impl_varint.calls k1 (fun k_ => some k_ = (.slice Ao46 y414.length co46 : Value).ownBlock) (.slice Ao46 y414.length co46) y414 (((rd_T57 l0 x17_1).f2).size : Int) t417 w _ ?side1 ?side2 A35.out).mono ?_
       (case side1 => repeat (first | (with_reducible first | exact HB.out | apply below_alloc | apply pw_below_drewN | apply below_drew1 | refine below_set ?_ GE392.out) | exact HB.out))
       (case side2 => exact Kd.R_tight rfl HO416.out)
       rintro e w47 ⟨v418, rfl, ho0, hb, hkp⟩
       refine ⟨_, rfl, ?_⟩
       replace BK392 := Aside0.mk (blk_kept (bk_ BK392) hkp (fun hs_ => (fun e_ => (Kd.R_ne HO416.out BK392.out (by decide)) e_) hs_))
       have HO419 := Aside0.mk (Kd.R_mono (ok' := fun k_ => True) ho0 (fun k_ hk_ => trivial))
       replace HB := Aside0.mk (hb)
       clear HO416
       (try clear hb)
       (try clear hkp)
       (try clear ho0)
       refine hK.out _ _ ⟨(blk_cell BK392.out 0).trans rfl, (blk_cell BK392.out 1).trans rfl, (blk_cell BK392.out 2).trans rfl, (blk_cell BK392.out 3).trans rfl⟩ (fun hHeld => ?_)
       clear hK K
       refine nS_ 43 ?_
       refine oS_ 7 (fun K hK => ?_)
       refine print_append_str_step (w0 := w) w.heap.size (by rfl) (.tmp 43) _ 88 9 5 rfl Tryz.underlying88 Tryz.underlying9 info5 v418 t417 ((rd_T57 l0 x17_1).f2) rfl rfl ?aO ?aB ?aS ?aL ?_
       (case aB => exact (bw1_ HB GE392))
       (case aO => exact (Kd.own_of_R (kr_ HO419)))
       (case aS => exact (below_size (bw1_ HB GE392)))
       (case aL => have := LMc36.out; omega)
       intro v421 w48 ho0 hb hg
       have ho := Kd.R_of_own (h1 := fun _ => rfl) (ok := fun _ => True) ho0 (fun _ _ => trivial)
       clear ho0
       have hat := True.intro
       rw [← Ny420.out] at ho
       change Kd.R (Kd.int .u8) 5 w48 w.heap.size (fun _ => True) v421 y420 at ho
       replace BK392 := Aside0.mk (blk_grown (g := gb392) (o := .cells #[.string ((rd_T57 l0 x17_1).f0), .int .i64 ((rd_T57 l0 x17_1).f1), .string ((rd_T57 l0 x17_1).f2), .bool false] 57 (0, 0)) (bk_ BK392) hg (Kd.R_ne HO419.out BK392.out (by decide)))
       replace HB := Aside0.mk (hb)
       have HO422 := Aside0.mk (ho)
       clear HO419
       clear ho hb hg hat
       refine hK.out _ _ ⟨(blk_cell BK392.out 0).trans rfl, (blk_cell BK392.out 1).trans rfl, (blk_cell BK392.out 2).trans rfl, (blk_cell BK392.out 3).trans rfl⟩ (fun hHeld => ?_)
       clear hK K
       refine nS_ 46 ?_
       refine pS_ 8 ?_
       refine done_ (done_of HT_.out (by kernel_rfl)) ?_
       try go_wp2
       go_roundg k1
       case measure => have := HK1.out; omega
       case rel => exact ⟨(y420), (wrap64 (x17_1 + 1)), (by first | rfl | (simp; done) | (simp [*]; done)), H', ⟨by have := HK1.out; omega⟩, ⟨kr_ HO422⟩, ⟨bw1_ HB GE392⟩⟩}
       {
       rw [if_neg c36] at H
       exact absurd H (by simp)}}
       {
       rw [if_neg c34] at H
       exact absurd H (by simp)}}
       {
       rw [if_neg c32] at H
       exact absurd H (by simp)}}}
       {
       rw [if_neg c12] at H
       exact absurd H (by simp)}}
       {
       rw [if_neg c11] at H
       exact absurd H (by simp)}}
       {
       rw [if_neg c10] at H
       have c10b0 := decide_eq_false c10
       clear c10
       obtain rfl := Option.some.inj H
       go_wp2
       go_ret
       exact ⟨_, eR_, kr_ HO_3, bw_ HB⟩}}
 {
 replace c3 := Bool.eq_false_iff.mpr c3
 subst c3
 rw [if_neg (show ¬ (false = true) by decide)] at H
 obtain rfl := Option.some.inj H
 go_enter Tryz.func81, Tryz.ntmps81
 go_wp2_with (first | ((with_reducible refine gate_callee (f := 77) rfl ?_); refine gL_ (some 8) Tryz.func77 #[.slice A0 l0.length c0] ?_; (with_reducible refine (impl_TreeOk.calls k _ _ l0 false _ ?side1 ?side2 ?side3 A2.out).mono ?_); (case side1 => refine EnvW.below HE.out ?_; repeat (first | (with_reducible first | exact HB.out | apply below_alloc | apply pw_below_drewN | apply below_drew1) | exact HB.out)); (case side2 => repeat (first | exact HR0.out | (with_reducible refine Kd.C_alloc ?_ _) | (with_reducible refine Kd.C_drewN ?_ _) | (with_reducible refine Kd.C_drew ?_))); (case side3 => exact HC0.out); rintro e w49 ⟨rfl, hb⟩; refine ⟨_, rfl, ?_⟩; replace HB := Aside0.mk (below_step (bw_ HB) hb); clear hb))
 go_ret
 exact ⟨_, eR_, by first | exact Kd.R_nil _ _ _ _ _ | exact Kd.N_nil _ _ _ _ _ | exact Kd.V_nil _ _ _ _ _ | exact Kd.Q_nil _ _ _ _ _ | exact Kd.S_nil _ _ _ _ _, bw_ HB⟩
}
def impl_TreeSum.f (k : Nat) (l0 : List (S57)) : Option (ByteArray) := (impl_TreeOk.f k l0).bind fun t423 => (if t423 = true then ((impl_PackTree.f k l0).bind fun t424 => ((impl_Sum.f k t424).bind fun t427 => ((impl_Word32.f k t427).bind fun t428 => (some t428)))) else (some (⟨#[]⟩ : ByteArray)))
theorem impl_TreeSum.mono : ∀ a0 k, LeO (impl_TreeSum.f k a0) (impl_TreeSum.f (k + 1) a0) := by
 intro a0 k
 unfold impl_TreeSum.f
 repeat' first
  | (with_reducible exact impl_PackTree.mono _ _)
  | (with_reducible exact impl_Sum.mono _ _)
  | (with_reducible exact impl_TreeOk.mono _ _)
  | (with_reducible exact impl_Word32.mono _ _)
  | (with_reducible exact LeO.refl _)
  | (with_reducible exact LeO.none _)
  | (with_reducible refine LeO.ite ?_ ?_)
  | (with_reducible refine LeO.bind ?_ (fun _ => ?_))
  | exact impl_PackTree.mono _ _
  | exact impl_Sum.mono _ _
  | exact impl_TreeOk.mono _ _
  | exact impl_Word32.mono _ _
  | exact LeO.none _
  | refine LeO.ite ?_ ?_
  | refine LeO.bind ?_ (fun _ => ?_)
theorem impl_TreeSum.calls (k : Nat) (A0 : Option Addr) (c0 : Nat) (l0 : List (S57)) (r : ByteArray) (w : World) (hE : EnvW w) (hr0 : Kd.C k57 w A0 l0.length l0) (hc0 : l0.length ≤ c0) (h : impl_TreeSum.f k l0 = some r) :
 Calls Tryz.prog 50 #[.slice A0 l0.length c0] w fun e w' => e = .returned (.string r) ∧ Below w.heap.size w w' := by
 have HE := Aside0.mk hE
 clear hE
 have HR0 := Aside0.mk hr0
 have HC0 := Aside0.mk hc0
 clear hr0 hc0
 have HB := Aside0.mk (Below.refl w.heap.size w)
 have H : ((impl_TreeOk.f k l0).bind fun t423 => (if t423 = true then ((impl_PackTree.f k l0).bind fun t424 => ((impl_Sum.f k t424).bind fun t427 => ((impl_Word32.f k t427).bind fun t428 => (some t428)))) else (some (⟨#[]⟩ : ByteArray)))) = some r := h
 clear h
 replace H := Option.bind_eq_some_iff.mp H
 obtain ⟨t423, A20, H⟩ := H
 have A2 := Aside0.mk A20
 clear A20
 by_cases c3 : t423 = true
 {
 subst c3
 rw [if_pos rfl] at H
 replace H := Option.bind_eq_some_iff.mp H
 obtain ⟨t424, A40, H⟩ := H
 have A4 := Aside0.mk A40
 clear A40
 replace H := Option.bind_eq_some_iff.mp H
 obtain ⟨t427, A50, H⟩ := H
 have A5 := Aside0.mk A50
 clear A50
 replace H := Option.bind_eq_some_iff.mp H
 obtain ⟨t428, A60, H⟩ := H
 have A6 := Aside0.mk A60
 clear A60
 obtain rfl := Option.some.inj H
 go_enter Tryz.func50, Tryz.ntmps50
 go_wp2_with (first | ((with_reducible refine gate_callee (f := 77) rfl ?_); refine gL_ (some 4) Tryz.func77 #[.slice A0 l0.length c0] ?_; (with_reducible refine (impl_TreeOk.calls k _ _ l0 true _ ?side1 ?side2 ?side3 A2.out).mono ?_); (case side1 => refine EnvW.below HE.out ?_; repeat (first | (with_reducible first | exact HB.out | apply below_alloc | apply pw_below_drewN | apply below_drew1) | exact HB.out)); (case side2 => repeat (first | exact HR0.out | (with_reducible refine Kd.C_alloc ?_ _) | (with_reducible refine Kd.C_drewN ?_ _) | (with_reducible refine Kd.C_drew ?_))); (case side3 => exact HC0.out); rintro e w7 ⟨rfl, hb⟩; refine ⟨_, rfl, ?_⟩; replace HB := Aside0.mk (below_step (bw_ HB) hb); clear hb) | ((with_reducible refine gate_callee (f := 81) rfl ?_); refine gL_ (some 7) Tryz.func81 #[.slice A0 l0.length c0] ?_; (with_reducible refine (impl_PackTree.calls k _ _ l0 t424 _ ?side1 ?side2 ?side3 A4.out).mono ?_); (case side1 => refine EnvW.below HE.out ?_; repeat (first | (with_reducible first | exact HB.out | apply below_alloc | apply pw_below_drewN | apply below_drew1) | exact HB.out)); (case side2 => exact cS_ HR0 HB); (case side3 => exact HC0.out); rintro e w8 ⟨v425, rfl, ho0, hb⟩; refine ⟨_, rfl, ?_⟩; have HO426 := Aside0.mk (Kd.R_lower ho0 (below_size (bw_ HB))); replace HB := Aside0.mk (below_step (bw_ HB) hb); clear hb; (try clear ho0); obtain ⟨Ao9, co9, eo9⟩ := Kd.R_slice HO426.out; subst eo9) | ((with_reducible refine gate_callee (f := 80) rfl ?_); refine gL_ (some 8) Tryz.func80 #[.slice Ao9 t424.length co9] ?_; (with_reducible refine (impl_Sum.calls k _ _ t424 t427 _ ?side1 ?side2 A5.out).mono ?_); (case side1 => repeat (first | exact (Kd.R_reads' HO426.out).2.2 | (with_reducible refine Kd.C_alloc ?_ _) | (with_reducible refine Kd.C_drewN ?_ _) | (with_reducible refine Kd.C_drew ?_))); (case side2 => exact (Kd.R_reads' HO426.out).2.1); rintro e w' ⟨rfl, ⟨nd, rfl⟩⟩; refine ⟨_, rfl, ?_⟩) | ((with_reducible refine gate_callee (f := 79) rfl ?_); refine gL_ (some 9) Tryz.func79 #[.int .u64 t427] ?_; (with_reducible refine (impl_Word32.calls k t427 t428 _ A6.out).mono ?_); rintro e w10 ⟨rfl, hb⟩; refine ⟨_, rfl, ?_⟩; replace HO426 := Aside0.mk (Kd.R_below (kr_ HO426) hb); replace HB := Aside0.mk (below_step (bw_ HB) hb); clear hb))
 go_ret
 exact ⟨eR_, bw_ HB⟩}
 {
 replace c3 := Bool.eq_false_iff.mpr c3
 subst c3
 rw [if_neg (show ¬ (false = true) by decide)] at H
 obtain rfl := Option.some.inj H
 go_enter Tryz.func50, Tryz.ntmps50
 go_wp2_with (first | ((with_reducible refine gate_callee (f := 77) rfl ?_); refine gL_ (some 4) Tryz.func77 #[.slice A0 l0.length c0] ?_; (with_reducible refine (impl_TreeOk.calls k _ _ l0 false _ ?side1 ?side2 ?side3 A2.out).mono ?_); (case side1 => refine EnvW.below HE.out ?_; repeat (first | (with_reducible first | exact HB.out | apply below_alloc | apply pw_below_drewN | apply below_drew1) | exact HB.out)); (case side2 => repeat (first | exact HR0.out | (with_reducible refine Kd.C_alloc ?_ _) | (with_reducible refine Kd.C_drewN ?_ _) | (with_reducible refine Kd.C_drew ?_))); (case side3 => exact HC0.out); rintro e w11 ⟨rfl, hb⟩; refine ⟨_, rfl, ?_⟩; replace HB := Aside0.mk (below_step (bw_ HB) hb); clear hb))
 go_ret
 exact ⟨eR_, bw_ HB⟩
}
def strings_IndexByte.f (a0 : ByteArray) (a1 : Int) : Option Int := some (Lib.indexByte a0.data.toList a1.toNat.toUInt8)
theorem strings_IndexByte.calls (a0 : ByteArray) (a1 : Int) (r : Int) (w : World) (h : strings_IndexByte.f a0 a1 = some r) :
 Calls Tryz.prog 108 #[.string a0, .int .u8 a1] w fun e w' => e = .returned (.int .i64 r) ∧ Drawn0 w w' := by
 obtain rfl := Option.some.inj h
 exact (Tryz.strings_IndexByte a0 a1 w).mono fun e w' ⟨he, hw⟩ => ⟨he, hw ▸ Drawn0.refl _⟩
def impl_ReadWord32.l0 : Nat → ByteArray → Int → Int → Int → Option (Int × Bool)
 | 0, _, _, _, _ => none
 | k + 1, x0, x4, x11, x12 => if x12 < x11 then (if 0 ≤ x12 then (if x12 < (x0.size : Int) then ((strings_IndexByte.f (⟨#[48, 49, 50, 51, 52, 53, 54, 55, 56, 57, 97, 98, 99, 100, 102, 103, 104, 105, 106, 107, 108, 109, 110, 112, 113, 114, 115, 118, 119, 120, 121, 122]⟩ : ByteArray) (bt x0 x12)).bind fun t429 => (if t429 < 0 then (some (0, false)) else (if x12 = 0 then (if t429 > 15 then (some (0, false)) else (impl_ReadWord32.l0 k x0 (Go.bits .or .u64 (IntKind.u64.wrap (x4 * 32)) (IntKind.u64.wrap (t429))) x11 (wrap64 (x12 + 1)))) else (impl_ReadWord32.l0 k x0 (Go.bits .or .u64 (IntKind.u64.wrap (x4 * 32)) (IntKind.u64.wrap (t429))) x11 (wrap64 (x12 + 1)))))) else (none)) else (none)) else (some (x4, true))
def impl_ReadWord32.f (k : Nat) (a0 : ByteArray) : Option (Int × Bool) := if (a0.size : Int) = 13 then (impl_ReadWord32.l0 k a0 0 (a0.size : Int) 0) else (some (0, false))
theorem impl_ReadWord32.mono_l : ∀ k, (∀ y0 y1 y2 y3, LeO (impl_ReadWord32.l0 k y0 y1 y2 y3) (impl_ReadWord32.l0 (k + 1) y0 y1 y2 y3))
 | 0 => fun _ _ _ _ r h => by simp [impl_ReadWord32.l0] at h
 | k + 1 => by
      have ih0 := impl_ReadWord32.mono_l k
      {
      intro y0 y1 y2 y3
      unfold impl_ReadWord32.l0
      repeat' first
      | (with_reducible exact ih0 _ _ _ _)
      | (with_reducible exact LeO.refl _)
      | (with_reducible exact LeO.none _)
      | (with_reducible refine LeO.ite ?_ ?_)
      | (with_reducible refine LeO.bind ?_ (fun _ => ?_))
      | exact ih0 _ _ _ _
      | exact LeO.none _
      | refine LeO.ite ?_ ?_
      | refine LeO.bind ?_ (fun _ => ?_)}
theorem impl_ReadWord32.mono : ∀ a0 k, LeO (impl_ReadWord32.f k a0) (impl_ReadWord32.f (k + 1) a0) := by
 intro a0 k
 have ih0 := impl_ReadWord32.mono_l k
 unfold impl_ReadWord32.f
 repeat' first
  | (with_reducible exact ih0 _ _ _ _)
  | (with_reducible exact LeO.refl _)
  | (with_reducible exact LeO.none _)
  | (with_reducible refine LeO.ite ?_ ?_)
  | (with_reducible refine LeO.bind ?_ (fun _ => ?_))
  | exact ih0 _ _ _ _
  | exact LeO.none _
  | refine LeO.ite ?_ ?_
  | refine LeO.bind ?_ (fun _ => ?_)
theorem impl_ReadWord32.calls (k : Nat) (a0 : ByteArray) (r1 : Int) (r2 : Bool) (w : World) (h : impl_ReadWord32.f k a0 = some (r1, r2)) :
 Calls Tryz.prog 97 #[.string a0] w fun e w' => e = .returned (.tuple #[.int .u64 r1, .bool r2]) ∧ Drawn0 w w' := by
 have H : (if (a0.size : Int) = 13 then (impl_ReadWord32.l0 k a0 0 (a0.size : Int) 0) else (some (0, false))) = some (r1, r2) := h
 clear h
 by_cases c2 : (a0.size : Int) = 13
 {
 rw [if_pos c2] at H
 have c2b0 : ((a0.size : Int) == 13) = true := beq_iff_eq.mpr c2
 have c2b1 : ((a0.size : Int) != 13) = false := bne_eq_false_iff_eq.mpr c2
 clear c2
 have H' := Aside0.mk H
 clear H
 go_enter Tryz.func97, Tryz.ntmps97
 go_wp2
 go_loopg [4, 12] k (fun kq v4 v12 w' => ∃ (x4_1 : Int) (x12_1 : Int), v4 = .int .u64 x4_1 ∧ v12 = .int .i64 x12_1 ∧ Aside0 (impl_ReadWord32.l0 kq a0 x4_1 (a0.size : Int) x12_1 = some (r1, r2)) ∧ Aside0 (kq ≤ k) ∧ Drawn0 w w')
 case atStart => exact ⟨(0), (0), (by first | rfl | (simp; done) | (simp [*]; done)), (by first | rfl | (simp; done) | (simp [*]; done)), H', ⟨Nat.le_refl _⟩, dR_⟩
 case round =>
  clear H'
  try clear c2
  try clear c2b0
  try clear c2b1
  try clear p2
  obtain ⟨x4_1, x12_1, rfl, rfl, HA, HK1, ⟨m1, rfl⟩⟩ := hrel
  cases gk with
  | zero => exact absurd HA.out (by simp [impl_ReadWord32.l0])
  | succ k1 =>
       have H := HA.out
       clear HA
       simp only [impl_ReadWord32.l0] at H
       by_cases c3 : x12_1 < (a0.size : Int)
       {
       rw [if_pos c3] at H
       have c3b0 := decide_eq_true c3
       clear c3
       by_cases c4 : 0 ≤ x12_1
       {
       rw [if_pos c4] at H
       have c4b0 := decide_eq_true c4
       clear c4
       by_cases c5 : x12_1 < (a0.size : Int)
       {
       rw [if_pos c5] at H
       have c5b0 := decide_eq_true c5
       clear c5
       replace H := Option.bind_eq_some_iff.mp H
       obtain ⟨t429, A70, H⟩ := H
       have A7 := Aside0.mk A70
       clear A70
       by_cases c8 : t429 < 0
       {
       rw [if_pos c8] at H
       have c8b0 := decide_eq_true c8
       clear c8
       simp only [Option.some.injEq, Prod.mk.injEq] at H
       obtain ⟨rfl, rfl⟩ := H
       have p6 : 0 ≤ (x12_1 : Int) := dA_
       have q6 : x12_1 < (a0.size : Int) := dA_
       have hx6 := bt_at a0 x12_1
       replace p6 := eq_true p6
       replace q6 := eq_true q6
       go_wp2_with (first | ((with_reducible refine gate_callee (f := 108) rfl ?_); refine gL_ (some 18) Tryz.func108 #[.string (⟨#[48, 49, 50, 51, 52, 53, 54, 55, 56, 57, 97, 98, 99, 100, 102, 103, 104, 105, 106, 107, 108, 109, 110, 112, 113, 114, 115, 118, 119, 120, 121, 122]⟩ : ByteArray), .int .u8 (bt a0 x12_1)] ?_; (with_reducible refine (strings_IndexByte.calls (⟨#[48, 49, 50, 51, 52, 53, 54, 55, 56, 57, 97, 98, 99, 100, 102, 103, 104, 105, 106, 107, 108, 109, 110, 112, 113, 114, 115, 118, 119, 120, 121, 122]⟩ : ByteArray) (bt a0 x12_1) t429 _ A7.out).mono ?_); rintro e w' ⟨rfl, ⟨nd, rfl⟩⟩; refine ⟨_, rfl, ?_⟩))
       go_ret2
       exact ⟨eS_, dR_⟩}
       {
       rw [if_neg c8] at H
       have c8b0 := decide_eq_false c8
       clear c8
       by_cases c9 : x12_1 = 0
       {
       rw [if_pos c9] at H
       have c9b0 : (x12_1 == 0) = true := beq_iff_eq.mpr c9
       have c9b1 : (x12_1 != 0) = false := bne_eq_false_iff_eq.mpr c9
       clear c9
       by_cases c10 : t429 > 15
       {
       rw [if_pos c10] at H
       have c10b0 : decide (15 < t429) = true := decide_eq_true c10
       clear c10
       simp only [Option.some.injEq, Prod.mk.injEq] at H
       obtain ⟨rfl, rfl⟩ := H
       have p6 : 0 ≤ (x12_1 : Int) := dA_
       have q6 : x12_1 < (a0.size : Int) := dA_
       have hx6 := bt_at a0 x12_1
       replace p6 := eq_true p6
       replace q6 := eq_true q6
       go_wp2_with (first | ((with_reducible refine gate_callee (f := 108) rfl ?_); refine gL_ (some 18) Tryz.func108 #[.string (⟨#[48, 49, 50, 51, 52, 53, 54, 55, 56, 57, 97, 98, 99, 100, 102, 103, 104, 105, 106, 107, 108, 109, 110, 112, 113, 114, 115, 118, 119, 120, 121, 122]⟩ : ByteArray), .int .u8 (bt a0 x12_1)] ?_; (with_reducible refine (strings_IndexByte.calls (⟨#[48, 49, 50, 51, 52, 53, 54, 55, 56, 57, 97, 98, 99, 100, 102, 103, 104, 105, 106, 107, 108, 109, 110, 112, 113, 114, 115, 118, 119, 120, 121, 122]⟩ : ByteArray) (bt a0 x12_1) t429 _ A7.out).mono ?_); rintro e w' ⟨rfl, ⟨nd, rfl⟩⟩; refine ⟨_, rfl, ?_⟩))
       go_ret2
       exact ⟨eS_, dR_⟩}
       {
       rw [if_neg c10] at H
       have c10b0 : decide (15 < t429) = false := decide_eq_false c10
       clear c10
       have H' := Aside0.mk H
       clear H
       have p6 : 0 ≤ (x12_1 : Int) := dA_
       have q6 : x12_1 < (a0.size : Int) := dA_
       have hx6 := bt_at a0 x12_1
       replace p6 := eq_true p6
       replace q6 := eq_true q6
       go_wp2_with (first | ((with_reducible refine gate_callee (f := 108) rfl ?_); refine gL_ (some 18) Tryz.func108 #[.string (⟨#[48, 49, 50, 51, 52, 53, 54, 55, 56, 57, 97, 98, 99, 100, 102, 103, 104, 105, 106, 107, 108, 109, 110, 112, 113, 114, 115, 118, 119, 120, 121, 122]⟩ : ByteArray), .int .u8 (bt a0 x12_1)] ?_; (with_reducible refine (strings_IndexByte.calls (⟨#[48, 49, 50, 51, 52, 53, 54, 55, 56, 57, 97, 98, 99, 100, 102, 103, 104, 105, 106, 107, 108, 109, 110, 112, 113, 114, 115, 118, 119, 120, 121, 122]⟩ : ByteArray) (bt a0 x12_1) t429 _ A7.out).mono ?_); rintro e w' ⟨rfl, ⟨nd, rfl⟩⟩; refine ⟨_, rfl, ?_⟩))
       go_roundg k1
       case measure => have := HK1.out; omega
       case rel => exact ⟨(Go.bits .or .u64 (IntKind.u64.wrap (x4_1 * 32)) (IntKind.u64.wrap (t429))), (wrap64 (x12_1 + 1)), (by first | rfl | (simp; done) | (simp [*]; done)), (by first | rfl | (simp; done) | (simp [*]; done)), H', ⟨by have := HK1.out; omega⟩, dR_⟩}}
       {
       rw [if_neg c9] at H
       have c9b0 : (x12_1 == 0) = false := beq_eq_false_iff_ne.mpr c9
       have c9b1 : (x12_1 != 0) = true := bne_iff_ne.mpr c9
       have H' := Aside0.mk H
       clear H
       have p6 : 0 ≤ (x12_1 : Int) := dA_
       have q6 : x12_1 < (a0.size : Int) := dA_
       have hx6 := bt_at a0 x12_1
       replace p6 := eq_true p6
       replace q6 := eq_true q6
       go_wp2_with (first | ((with_reducible refine gate_callee (f := 108) rfl ?_); refine gL_ (some 18) Tryz.func108 #[.string (⟨#[48, 49, 50, 51, 52, 53, 54, 55, 56, 57, 97, 98, 99, 100, 102, 103, 104, 105, 106, 107, 108, 109, 110, 112, 113, 114, 115, 118, 119, 120, 121, 122]⟩ : ByteArray), .int .u8 (bt a0 x12_1)] ?_; (with_reducible refine (strings_IndexByte.calls (⟨#[48, 49, 50, 51, 52, 53, 54, 55, 56, 57, 97, 98, 99, 100, 102, 103, 104, 105, 106, 107, 108, 109, 110, 112, 113, 114, 115, 118, 119, 120, 121, 122]⟩ : ByteArray) (bt a0 x12_1) t429 _ A7.out).mono ?_); rintro e w' ⟨rfl, ⟨nd, rfl⟩⟩; refine ⟨_, rfl, ?_⟩))
       go_roundg k1
       case measure => have := HK1.out; omega
       case rel => exact ⟨(Go.bits .or .u64 (IntKind.u64.wrap (x4_1 * 32)) (IntKind.u64.wrap (t429))), (wrap64 (x12_1 + 1)), (by first | rfl | (simp; done) | (simp [*]; done)), (by first | rfl | (simp; done) | (simp [*]; done)), H', ⟨by have := HK1.out; omega⟩, dR_⟩}}}
       {
       rw [if_neg c5] at H
       exact absurd H (by simp)}}
       {
       rw [if_neg c4] at H
       exact absurd H (by simp)}}
       {
       rw [if_neg c3] at H
       have c3b0 := decide_eq_false c3
       clear c3
       simp only [Option.some.injEq, Prod.mk.injEq] at H
       obtain ⟨rfl, rfl⟩ := H
       go_wp2
       go_ret2
       exact ⟨eS_, dR_⟩}}
 {
 rw [if_neg c2] at H
 have c2b0 : ((a0.size : Int) == 13) = false := beq_eq_false_iff_ne.mpr c2
 have c2b1 : ((a0.size : Int) != 13) = true := bne_iff_ne.mpr c2
 simp only [Option.some.injEq, Prod.mk.injEq] at H
 obtain ⟨rfl, rfl⟩ := H
 go_enter Tryz.func97, Tryz.ntmps97
 go_wp2
 go_ret2
 exact ⟨eS_, dR_⟩
}
def impl_AddressOk.f (k : Nat) (a0 : ByteArray) : Option (Bool) := if (a0.size : Int) < 14 then (some false) else (if 13 < (a0.size : Int) then (if (bt a0 13) = 45 then (if 14 ≤ (a0.size : Int) then ((impl_NameOk.f k (a0.extract 14 a0.size)).bind fun t430 => (if t430 = true then (if 0 ≤ 13 then (if 13 ≤ (a0.size : Int) then ((impl_ReadWord32.f k (a0.extract 0 13)).bind fun bt431 => (some bt431.2)) else (none)) else (none)) else (some false))) else (none)) else (some false)) else (none))
theorem impl_AddressOk.mono : ∀ a0 k, LeO (impl_AddressOk.f k a0) (impl_AddressOk.f (k + 1) a0) := by
 intro a0 k
 unfold impl_AddressOk.f
 repeat' first
  | (with_reducible exact impl_NameOk.mono _ _)
  | (with_reducible exact impl_ReadWord32.mono _ _)
  | (with_reducible exact LeO.refl _)
  | (with_reducible exact LeO.none _)
  | (with_reducible refine LeO.ite ?_ ?_)
  | (with_reducible refine LeO.bind ?_ (fun _ => ?_))
  | exact impl_NameOk.mono _ _
  | exact impl_ReadWord32.mono _ _
  | exact LeO.none _
  | refine LeO.ite ?_ ?_
  | refine LeO.bind ?_ (fun _ => ?_)
theorem impl_AddressOk.calls (k : Nat) (a0 : ByteArray) (r : Bool) (w : World) (h : impl_AddressOk.f k a0 = some r) :
 Calls Tryz.prog 76 #[.string a0] w fun e w' => e = .returned (.bool r) ∧ Drawn0 w w' := by
 have H : (if (a0.size : Int) < 14 then (some false) else (if 13 < (a0.size : Int) then (if (bt a0 13) = 45 then (if 14 ≤ (a0.size : Int) then ((impl_NameOk.f k (a0.extract 14 a0.size)).bind fun t430 => (if t430 = true then (if 0 ≤ 13 then (if 13 ≤ (a0.size : Int) then ((impl_ReadWord32.f k (a0.extract 0 13)).bind fun bt431 => (some bt431.2)) else (none)) else (none)) else (some false))) else (none)) else (some false)) else (none))) = some r := h
 clear h
 by_cases c2 : (a0.size : Int) < 14
 {
 rw [if_pos c2] at H
 have c2b0 := decide_eq_true c2
 have c2b1 : decide (a0.size < 14) = true := decide_eq_true (by omega)
 clear c2
 obtain rfl := Option.some.inj H
 go_enter Tryz.func76, Tryz.ntmps76
 go_wp2
 go_ret
 exact ⟨eS_, dR_⟩}
 {
 rw [if_neg c2] at H
 have c2b0 := decide_eq_false c2
 have c2b1 : decide (a0.size < 14) = false := decide_eq_false (by omega)
 clear c2
 by_cases c3 : 13 < (a0.size : Int)
 {
 rw [if_pos c3] at H
 have c3b0 := decide_eq_true c3
 have c3b1 : decide (13 < a0.size) = true := decide_eq_true (by omega)
 clear c3
 by_cases c5 : (bt a0 13) = 45
 {
 rw [if_pos c5] at H
 have c5b0 : ((bt a0 13) == 45) = true := beq_iff_eq.mpr c5
 have c5b1 : ((bt a0 13) != 45) = false := bne_eq_false_iff_eq.mpr c5
 clear c5
 by_cases c6 : 14 ≤ (a0.size : Int)
 {
 rw [if_pos c6] at H
 have c6b0 := eq_true c6
 have c6b1 := decide_eq_true c6
 clear c6
 replace H := Option.bind_eq_some_iff.mp H
 obtain ⟨t430, A70, H⟩ := H
 have A7 := Aside0.mk A70
 clear A70
 by_cases c8 : t430 = true
 {
 subst c8
 rw [if_pos rfl] at H
 by_cases c9 : 0 ≤ 13
 {
 rw [if_pos c9] at H
 have c9b0 := eq_true c9
 have c9b1 := decide_eq_true c9
 clear c9
 by_cases c10 : 13 ≤ (a0.size : Int)
 {
 rw [if_pos c10] at H
 have c10b0 := eq_true c10
 have c10b1 := decide_eq_true c10
 clear c10
 replace H := Option.bind_eq_some_iff.mp H
 obtain ⟨⟨t431, t432⟩, A110, H⟩ := H
 have A11 := Aside0.mk A110
 clear A110
 obtain rfl := Option.some.inj H
 have p4 : 0 ≤ (13 : Int) := (by omega)
 have q4 : 13 < a0.size := (by have : (13 : Int) < (a0.size : Int) := dA_; omega)
 have hx4 : ∀ h : 13 < a0.size, ((a0[13]'h).toNat : Int) = bt a0 13 := bt_at a0 13
 clear p4
 have qi4 : (13 < (a0.size : Int)) = True := eq_true (dA_)
 replace q4 := eq_true q4
 go_enter Tryz.func76, Tryz.ntmps76
 go_wp2_with (first | (go_at_call 96; (with_reducible refine (impl_NameOk.calls k (a0.extract 14 a0.size) true _ A7.out).mono ?_); rintro e w' ⟨rfl, ⟨nd, rfl⟩⟩) | ((with_reducible refine gate_callee (f := 97) rfl ?_); refine gL_ (some 22) Tryz.func97 #[.string (a0.extract 0 13)] ?_; (with_reducible refine (impl_ReadWord32.calls k (a0.extract 0 13) t431 t432 _ A11.out).mono ?_); rintro e w' ⟨rfl, ⟨nd, rfl⟩⟩; refine ⟨_, rfl, ?_⟩))
 go_ret
 exact ⟨eS_, dR_⟩}
 {
 rw [if_neg c10] at H
 exact absurd H (by simp)}}
 {
 rw [if_neg c9] at H
 exact absurd H (by simp)}}
 {
 replace c8 := Bool.eq_false_iff.mpr c8
 subst c8
 rw [if_neg (show ¬ (false = true) by decide)] at H
 obtain rfl := Option.some.inj H
 have p4 : 0 ≤ (13 : Int) := (by omega)
 have q4 : 13 < a0.size := (by have : (13 : Int) < (a0.size : Int) := dA_; omega)
 have hx4 : ∀ h : 13 < a0.size, ((a0[13]'h).toNat : Int) = bt a0 13 := bt_at a0 13
 clear p4
 have qi4 : (13 < (a0.size : Int)) = True := eq_true (dA_)
 replace q4 := eq_true q4
 go_enter Tryz.func76, Tryz.ntmps76
 go_wp2_with (first | (go_at_call 96; (with_reducible refine (impl_NameOk.calls k (a0.extract 14 a0.size) false _ A7.out).mono ?_); rintro e w' ⟨rfl, ⟨nd, rfl⟩⟩))
 go_ret
 exact ⟨eS_, dR_⟩}}
 {
 rw [if_neg c6] at H
 exact absurd H (by simp)}}
 {
 rw [if_neg c5] at H
 have c5b0 : ((bt a0 13) == 45) = false := beq_eq_false_iff_ne.mpr c5
 have c5b1 : ((bt a0 13) != 45) = true := bne_iff_ne.mpr c5
 obtain rfl := Option.some.inj H
 have p4 : 0 ≤ (13 : Int) := (by omega)
 have q4 : 13 < a0.size := (by have : (13 : Int) < (a0.size : Int) := dA_; omega)
 have hx4 : ∀ h : 13 < a0.size, ((a0[13]'h).toNat : Int) = bt a0 13 := bt_at a0 13
 clear p4
 have qi4 : (13 < (a0.size : Int)) = True := eq_true (dA_)
 replace q4 := eq_true q4
 go_enter Tryz.func76, Tryz.ntmps76
 go_wp2
 go_ret
 exact ⟨eS_, dR_⟩}}
 {
 rw [if_neg c3] at H
 exact absurd H (by simp)
}}
def strings_Contains.f (a0 a1 : ByteArray) : Option Bool := if a0.size < 4294967281 then some (Lib.contains a0.data.toList a1.data.toList) else none
theorem strings_Contains.calls (a0 a1 : ByteArray) (r : Bool) (w : World) (hE : EnvW w) (h : strings_Contains.f a0 a1 = some r) :
 Calls Tryz.prog 82 #[.string a0, .string a1] w fun e w' => e = .returned (.bool r) ∧ Drawn0 w w' := by
 unfold strings_Contains.f at h
 split at h
 {
 rename_i hs
 obtain rfl := Option.some.inj h
 obtain ⟨m, hm⟩ := hE.out
 exact (Tryz.strings_Contains a0 a1 m w hs hm).mono fun e w' ⟨he, hw⟩ => ⟨he, hw ▸ Drawn0.refl _⟩}
 {
 cases h
}
def impl_sorted.f (a0 : List (ByteArray × Int)) : Option (List ByteArray) := if a0.length < 2199023255552 then some (skeys a0) else none
theorem impl_sorted.info : (Tryz.prog.info? 9).map (fun i => (i.zero, i.size, i.bytes)) = some (some (.string ⟨#[]⟩), 1, 16) := by kernel_rfl
open Go.Maps Go.Sort in
set_option maxHeartbeats 1000000 in
theorem impl_sorted.calls (g0 : Nat) (a0 : List (ByteArray × Int)) (r : List ByteArray) (w : World) (hm : MapAt (kkStr Tryz.prog 9 Tryz.underlying9) ekI64 w g0 a0) (h : impl_sorted.f a0 = some r) :
 Calls Tryz.prog 83 #[.map (some g0)] w fun e w' => ∃ v0_ : Value, e = .returned (v0_) ∧ Kd.R Kd.string 9 w' w.heap.size (fun _ => True) v0_ r ∧ Below w.heap.size w w' := by
 unfold impl_sorted.f at h
 by_cases c0 : a0.length < 2199023255552
 {
 rw [if_pos c0] at h
 obtain rfl := Option.some.inj h
 clear h
 obtain ⟨i0, hi, hz0, hz1, hz2⟩ := info_parts impl_sorted.info
 have hown : w.ownsMap Tryz.prog 9 ekI64.R g0 a0.length (den (kkStr Tryz.prog 9 Tryz.underlying9) ekI64 a0) := hm
 obtain ⟨D0, hD0⟩ : ∃ D, D = den (kkStr Tryz.prog 9 Tryz.underlying9) ekI64 a0 := ⟨_, rfl⟩
 rw [← hD0] at hown
 have HD := Aside0.mk hD0
 clear hD0 hm
 have hsz := hown.size_le
 have hbl := hown.lt
 have hrow0 : w.ownsRow w.heap.size 9 1 (.slice none 0 0) 0 (List.map encStr []) := ⟨rfl, .inl ⟨rfl, rfl⟩⟩
 have law := string_keyed Tryz.underlying9
 go_enter Tryz.func83, Tryz.ntmps83
 go_wp2_with (first
  | (at_range; refine wpList_range_own _ rfl _ 99 rfl 9 3 law Tryz.underlying99 _ g0 _ _ rfl hown ?_; intro w0 hrg0 hg0 hs0)
  | go_in)
 go_frame
 go_loopw [3] (fun v wr => ∃ (left : Lit → Bool) (cnt : Nat) (ss : List (List UInt8)), wr.ranges Tryz.prog 9 ekI64.R g0 w.heap.size a0.length D0 left cnt ∧ ss.length + cnt ≤ Maps.size D0 ∧
  wr.ownsRow w.heap.size 9 1 v ss.length (ss.map encStr) ∧ Collected D0 left ss ∧ Below w.heap.size w wr)
  (fun _ wr => wr.rangeLeft g0 w.heap.size)
 case atStart =>
  exact ⟨_, _, [], hrg0, by simp, hrow0.kept hg0 (Or.inl rfl), Collected.start D0, (Below.refl _ _).grown hg0 (Nat.le_refl _) (fun j hj => by cases hj)⟩
 case round =>
  obtain ⟨left, cnt, ss, hrg, hcs, hrow, hC, hnx⟩ := hrel
  go_wp2_with (first
   | (at_next; refine wpList_next_ranges _ rfl _ rfl 9 law ekI64.R encStr (Value.int .i64) (fun key kl hk => by obtain ⟨x, hx, _⟩ := Maps.keyOf_str Tryz.underlying9 hk; exact ⟨x, hx⟩) (fun v y hv => ekI64_shape hv) g0 w.heap.size a0.length _ _ _ rfl hrg ?_ ?_)
   | go_in)
  {
  intro hc0 hl0
  have hd := HD.out
  subst hd
  have hp := collected_keys hC hl0
  rcases hrow.2 with ⟨hnil, hz⟩ | ⟨g, cap, cur, hv, hbase, hb, h1, h2, h3, h4⟩
  {
  subst hnil
  have hz' : ss = [] := by simpa using hz
  subst hz'
  go_wp2_with (go_at_call 102; refine (Tryz.slices_Sort_string_none none 0 _).mono ?_; rintro e w' ⟨rfl, rfl⟩)
  go_ret
  refine ⟨_, rfl, ?_, hnx⟩
  rw [← skeys_of_perm hp, List.mergeSort_nil, List.map_nil]
  exact Kd.R_nil _ _ _ _ _}
  {
  subst hv
  have hH : Holds encStr wr g 0 ss.toArray := holds_of_block hb (by simpa using h4)
  have hgl : g < wr.heap.size := (Array.getElem?_eq_some_iff.1 hb).1
  have hc := Tryz.slices_Sort_string g 0 cap ss wr hH hgl (by have := hc0; omega)
  go_wp2_with (go_at_call 102; refine hc.mono ?_; rintro e w' ⟨rfl, nn, os, rfl⟩)
  go_ret
  refine ⟨_, rfl, ?_, hnx.grown (grownBy_sorted _) hnx.size (fun j hj => by cases hj; exact hbase)⟩
  have ho := ownsRow_sorted (w := wr) (n := nn) (os := os) (ts := ss.mergeSort fun x y => decide (x ≤ y)) (by simp) hbase hb h1 h2 h3
  rw [encs_strs, skeys_of_perm hp] at ho
  exact R_texts_own ho}}
  {
  intro x c kl yd yp w2 cnt2 hkey hlk hv hat hrg2 hlt hg2 hs2 hen
  obtain ⟨x', ex, rfl, _⟩ := Maps.keyOf_str Tryz.underlying9 hkey
  obtain rfl : x = x' := encStr_inj ex
  have hrow2 := hrow.kept hg2 (Or.inr (row_ne_iter hrow hrg).symm)
  clear hs2
  go_wp2_with (first
   | (at_builtin; refine wpList_append_own _ rfl _ _ 29 rfl w.heap.size 9 i0 (.string ⟨#[]⟩) 1 16 Tryz.underlying29 hi hz0 hz1 hz2 rfl (by decide) _ _ _ rfl (hrow2.alloc _) ⟨w2.heap.size, 0, none⟩ 1 1 [encStr x] rfl rfl (cell_one_new _ _ _) (by simp [Value.oneCell', encStr]) (by unfold maxLen at *; omega) (by omega) (by have := hnx.size; have := hg2.size; simp; omega) ?_; intro v' w3 hown' hg3 hnil3; go_frame)
   | go_in)
  have hrg3 := (hrg2.alloc _).kept hg3 (row_ne_low hrow2 hbl) (row_ne_iter hrow2 hrg2)
  go_roundw
  case rel =>
   refine ⟨_, cnt2, ss ++ [x], hrg3, by simp; omega, by simpa using hown', hC.step hlk hat, ?_⟩
   exact ((hnx.grown hg2 hnx.size (fun j hj => by cases hj; exact Nat.le_refl _)).alloc (by have := hnx.size; have := hg2.size; omega) _).grown hg3 (by have := hnx.size; have := hg2.size; simp; omega) (fun j hj => (hrow2.lt j hj).1)
  case measure => rw [hrg3.left_eq, hrg.left_eq]; exact hlt}}
 {
 rw [if_neg c0] at h
 cases h
}
def spec_l3Add.l0 : Nat → List ByteArray → ByteArray → Int → Option (List ByteArray)
 | 0, _, _, _ => none
 | k + 1, x0, x1, x5 => if x5 < (x0.length : Int) then (if 0 ≤ x5 then (if (Op.bytesLess ((rdOf ByteArray.empty x0 x5).toList) x1.toList) = true then (spec_l3Add.l0 k x0 x1 (wrap64 (x5 + 1))) else (if (rdOf ByteArray.empty x0 x5).toList = x1.toList then (some x0) else ((some (([] : List ByteArray) : List ByteArray)).bind fun y213 => (if x5 ≤ (x0.length : Int) then ((some (x0.take (x5 : Int).toNat : List ByteArray)).bind fun y216 => (if y213.length + y216.length < 8796093022208 then ((some (y213 ++ y216 : List ByteArray)).bind fun y220 => (if y220.length < 8796093022208 then ((some (y220 ++ [x1] : List ByteArray)).bind fun y223 => ((some (x0.drop (x5 : Int).toNat : List ByteArray)).bind fun y226 => (if y223.length + y226.length < 8796093022208 then (some (y223 ++ y226)) else (none)))) else (none))) else (none))) else (none))))) else (none)) else ((some (([] : List ByteArray) : List ByteArray)).bind fun y233 => (if 0 ≤ x5 then (if x5 ≤ (x0.length : Int) then ((some (x0.take (x5 : Int).toNat : List ByteArray)).bind fun y236 => (if y233.length + y236.length < 8796093022208 then ((some (y233 ++ y236 : List ByteArray)).bind fun y240 => (if y240.length < 8796093022208 then ((some (y240 ++ [x1] : List ByteArray)).bind fun y243 => ((some (x0.drop (x5 : Int).toNat : List ByteArray)).bind fun y246 => (if y243.length + y246.length < 8796093022208 then (some (y243 ++ y246)) else (none)))) else (none))) else (none))) else (none)) else (none)))
def spec_l3Add.f (k : Nat) (l0 : List ByteArray) (a1 : ByteArray) : Option (List ByteArray) := spec_l3Add.l0 k l0 a1 0
def spec_l3Add.T7 : Bool × List (List Nat × List Nat) := (true, [([], []), ([], []), ([1], [1]), ([0, 2], [0, 2]), ([], []), ([], []), ([4, 5], [4, 5]), ([3, 6, 3], [3, 6]), ([7, 7, 0, 1, 2, 3, 4, 5, 6, 7], [7])])
def spec_l3Add.B7 : List Nat := [0, 0, 2, 7, 0, 0, 48, 127, 255]
theorem spec_l3Add.tab7 : rtab .any (opsOf Tryz.f67 7) = spec_l3Add.T7 := by kernel_rfl
theorem spec_l3Add.bits7 : waitsOk spec_l3Add.T7.2 spec_l3Add.B7 = true := by kernel_rfl
theorem spec_l3Add.calls (k : Nat) (P0_ : Nat → Prop) (u9000_ : Value) (l0 : List ByteArray) (a1 : ByteArray) (r : List ByteArray) (w0 w : World) (hB : Below w0.heap.size w0 w) (ho0 : Kd.R Kd.string 9 w w0.heap.size P0_ u9000_ l0) (h : spec_l3Add.f k l0 a1 = some r) :
 Calls Tryz.prog 67 #[u9000_, .string a1] w fun e w' => ∃ v0_ : Value, e = .returned (v0_) ∧ Kd.R Kd.string 9 w' w0.heap.size (fun k_ => (P0_ k_ ∨ w.heap.size ≤ k_)) v0_ r ∧ Below w0.heap.size w0 w' ∧ Kept w w' (fun k_ => P0_ k_) := by
 have HO0 := Aside0.mk (show Kd.R Kd.string 9 w w0.heap.size (fun k_ => (P0_ k_ ∨ w.heap.size ≤ k_)) u9000_ l0 from Kd.R_mono ho0 (fun k_ hk => (.inl hk)))
 have HK := Aside0.mk (Kept.refl w (fun k_ => P0_ k_))
 have HW0 := Aside0.mk hB.size
 have HB := Aside0.mk hB
 clear hB
 have H : (spec_l3Add.l0 k l0 a1 0) = some r := h
 clear h
 have H' := Aside0.mk H
 clear H
 go_enter Tryz.func67, Tryz.ntmps67
 go_wp2
 go_loopg [5] k (fun kq v5 w' => ∃ (x5_1 : Int), v5 = .int .i64 x5_1 ∧ Aside0 (spec_l3Add.l0 kq l0 a1 x5_1 = some r) ∧ Aside0 (kq ≤ k) ∧ Aside0 (Kd.R Kd.string 9 w' w0.heap.size (fun k_ => (P0_ k_ ∨ w.heap.size ≤ k_)) u9000_ l0) ∧ Aside0 (Kept w w' (fun k_ => P0_ k_)) ∧ Aside0 (Below w0.heap.size w0 w'))
 case atStart => exact ⟨(0), (by first | rfl | (simp; done) | (simp [*]; done)), H', ⟨Nat.le_refl _⟩, ⟨kr_ HO0⟩, ⟨by repeat (first | (with_reducible first | exact HK.out | apply Kept.alloc | apply Kept.drewN | apply Kept.drew) | exact HK.out)⟩, ⟨bw_ HB⟩⟩
 case round =>
  clear H'
  try clear p2
  obtain ⟨x5_1, rfl, HA, HK1, HO_0, HK, HB⟩ := hrel
  cases gk with
  | zero => exact absurd HA.out (by simp [spec_l3Add.l0])
  | succ k1 =>
       have H := HA.out
       clear HA
       simp only [spec_l3Add.l0] at H
       by_cases c3 : x5_1 < (l0.length : Int)
       {
       rw [if_pos c3] at H
       have c3b0 := decide_eq_true c3
       clear c3
       by_cases c4 : 0 ≤ x5_1
       {
       rw [if_pos c4] at H
       have c4b0 := decide_eq_true c4
       clear c4
       by_cases c5 : (Op.bytesLess ((rdOf ByteArray.empty l0 x5_1).toList) a1.toList) = true
       {
       rw [if_pos c5] at H
       have c5b0 : (Op.bytesLess ((rdOf ByteArray.empty l0 x5_1).toList) a1.toList) = true := c5
       clear c5
       have H' := Aside0.mk H
       clear H
       obtain ⟨Ao6, co6, eo6⟩ := Kd.R_slice HO_0.out
       subst eo6
       have p211 : 0 ≤ (x5_1 : Int) := dA_
       have q211 : x5_1 < (l0.length : Int) := dA_
       obtain ⟨ad211, e211, hx211_0⟩ := Kd.at_string (Kd.R_reads' HO_0.out).2.2 x5_1 p211 q211
       cases e211
       replace p211 := eq_true p211
       replace q211 := eq_true q211
       go_wp2
       go_roundg k1
       case measure => have := HK1.out; omega
       case rel => exact ⟨(wrap64 (x5_1 + 1)), (by first | rfl | (simp; done) | (simp [*]; done)), H', ⟨by have := HK1.out; omega⟩, ⟨kr_ HO_0⟩, ⟨by repeat (first | (with_reducible first | exact HK.out | apply Kept.alloc | apply Kept.drewN | apply Kept.drew) | exact HK.out)⟩, ⟨bw_ HB⟩⟩}
       {
       rw [if_neg c5] at H
       have c5b0 : (Op.bytesLess ((rdOf ByteArray.empty l0 x5_1).toList) a1.toList) = false := by simpa using c5
       clear c5
       by_cases c7 : (rdOf ByteArray.empty l0 x5_1).toList = a1.toList
       {
       rw [if_pos c7] at H
       have c7b0 : ((rdOf ByteArray.empty l0 x5_1).toList == a1.toList) = true := beq_iff_eq.mpr c7
       have c7b1 : ((rdOf ByteArray.empty l0 x5_1).toList != a1.toList) = false := bne_eq_false_iff_eq.mpr c7
       clear c7
       obtain rfl := Option.some.inj H
       obtain ⟨Ao8, co8, eo8⟩ := Kd.R_slice HO_0.out
       subst eo8
       have p211 : 0 ≤ (x5_1 : Int) := dA_
       have q211 : x5_1 < (l0.length : Int) := dA_
       obtain ⟨ad211, e211, hx211_0⟩ := Kd.at_string (Kd.R_reads' HO_0.out).2.2 x5_1 p211 q211
       cases e211
       replace p211 := eq_true p211
       replace q211 := eq_true q211
       have p212 : 0 ≤ (x5_1 : Int) := dA_
       have q212 : x5_1 < (l0.length : Int) := dA_
       obtain ⟨ad212, e212, hx212_0⟩ := Kd.at_string (Kd.R_reads' HO_0.out).2.2 x5_1 p212 q212
       obtain rfl : ad211 = ad212 := (by injection e212)
       replace p212 := eq_true p212
       replace q212 := eq_true q212
       go_wp2
       go_ret
       exact ⟨_, eR_, kr_ HO_0, bw_ HB, by repeat (first | (with_reducible first | exact HK.out | apply Kept.alloc | apply Kept.drewN | apply Kept.drew) | exact HK.out)⟩}
       {
       rw [if_neg c7] at H
       have c7b0 : ((rdOf ByteArray.empty l0 x5_1).toList == a1.toList) = false := beq_eq_false_iff_ne.mpr c7
       have c7b1 : ((rdOf ByteArray.empty l0 x5_1).toList != a1.toList) = true := bne_iff_ne.mpr c7
       obtain ⟨y213, hy213⟩ : ∃ y_ : List ByteArray, y_ = (([] : List ByteArray)) := ⟨_, rfl⟩
       replace H : (if x5_1 ≤ (l0.length : Int) then ((some (l0.take (x5_1 : Int).toNat : List ByteArray)).bind fun y216 => (if y213.length + y216.length < 8796093022208 then ((some (y213 ++ y216 : List ByteArray)).bind fun y220 => (if y220.length < 8796093022208 then ((some (y220 ++ [a1] : List ByteArray)).bind fun y223 => ((some (l0.drop (x5_1 : Int).toNat : List ByteArray)).bind fun y226 => (if y223.length + y226.length < 8796093022208 then (some (y223 ++ y226)) else (none)))) else (none))) else (none))) else (none)) = some r := rH_ hy213 H
       have Ny213 := Aside0.mk hy213
       clear hy213
       have c9b0 := eq_true (dA_ : 0 ≤ x5_1)
       by_cases c10 : x5_1 ≤ (l0.length : Int)
       {
       rw [if_pos c10] at H
       have c10b0 := eq_true c10
       have c10b1 := decide_eq_true c10
       clear c10
       obtain ⟨y216, hy216⟩ : ∃ y_ : List ByteArray, y_ = (l0.take (x5_1 : Int).toNat) := ⟨_, rfl⟩
       replace H : (if y213.length + y216.length < 8796093022208 then ((some (y213 ++ y216 : List ByteArray)).bind fun y220 => (if y220.length < 8796093022208 then ((some (y220 ++ [a1] : List ByteArray)).bind fun y223 => ((some (l0.drop (x5_1 : Int).toNat : List ByteArray)).bind fun y226 => (if y223.length + y226.length < 8796093022208 then (some (y223 ++ y226)) else (none)))) else (none))) else (none)) = some r := rH_ hy216 H
       have Ny216 := Aside0.mk hy216
       clear hy216
       by_cases c11 : y213.length + y216.length < 8796093022208
       {
       rw [if_pos c11] at H
       have LMc11 := Aside0.mk c11
       clear c11
       obtain ⟨y220, hy220⟩ : ∃ y_ : List ByteArray, y_ = (y213 ++ y216) := ⟨_, rfl⟩
       replace H : (if y220.length < 8796093022208 then ((some (y220 ++ [a1] : List ByteArray)).bind fun y223 => ((some (l0.drop (x5_1 : Int).toNat : List ByteArray)).bind fun y226 => (if y223.length + y226.length < 8796093022208 then (some (y223 ++ y226)) else (none)))) else (none)) = some r := rH_ hy220 H
       have Ny220 := Aside0.mk hy220
       clear hy220
       by_cases c12 : y220.length < 8796093022208
       {
       rw [if_pos c12] at H
       have LMc12 := Aside0.mk c12
       clear c12
       obtain ⟨y223, hy223⟩ : ∃ y_ : List ByteArray, y_ = (y220 ++ [a1]) := ⟨_, rfl⟩
       replace H : ((some (l0.drop (x5_1 : Int).toNat : List ByteArray)).bind fun y226 => (if y223.length + y226.length < 8796093022208 then (some (y223 ++ y226)) else (none))) = some r := rH_ hy223 H
       have Ny223 := Aside0.mk hy223
       clear hy223
       have c13b0 := eq_true (dA_ : 0 ≤ x5_1)
       have c14b0 := eq_true (dA_ : x5_1 ≤ (l0.length : Int))
       obtain ⟨y226, hy226⟩ : ∃ y_ : List ByteArray, y_ = (l0.drop (x5_1 : Int).toNat) := ⟨_, rfl⟩
       replace H : (if y223.length + y226.length < 8796093022208 then (some (y223 ++ y226)) else (none)) = some r := rH_ hy226 H
       have Ny226 := Aside0.mk hy226
       clear hy226
       by_cases c15 : y223.length + y226.length < 8796093022208
       {
       rw [if_pos c15] at H
       have LMc15 := Aside0.mk c15
       clear c15
       obtain ⟨y230, hy230⟩ : ∃ y_ : List ByteArray, y_ = (y223 ++ y226) := ⟨_, rfl⟩
       replace H : (some y230) = some r := rH_ hy230 H
       have Ny230 := Aside0.mk hy230
       clear hy230
       obtain rfl := Option.some.inj H
       obtain ⟨Ao16, co16, eo16⟩ := Kd.R_slice HO_0.out
       subst eo16
       have p211 : 0 ≤ (x5_1 : Int) := dA_
       have q211 : x5_1 < (l0.length : Int) := dA_
       obtain ⟨ad211, e211, hx211_0⟩ := Kd.at_string (Kd.R_reads' HO_0.out).2.2 x5_1 p211 q211
       cases e211
       replace p211 := eq_true p211
       replace q211 := eq_true q211
       have p212 : 0 ≤ (x5_1 : Int) := dA_
       have q212 : x5_1 < (l0.length : Int) := dA_
       obtain ⟨ad212, e212, hx212_0⟩ := Kd.at_string (Kd.R_reads' HO_0.out).2.2 x5_1 p212 q212
       obtain rfl : ad211 = ad212 := (by injection e212)
       replace p212 := eq_true p212
       replace q212 := eq_true q212
       try go_wp2_with (first | ((with_reducible refine gate_dst (N := 34) rfl ?_); refine Kd.R_lit Kd.string _ 9 ?hg (N := 34) ?hd (xs := ([] : List ByteArray)) (inner := []) (ok := fun _ => True) (okp := fun _ => True) ?hr ?hp (fun _ hk => hk) trivial (Below.refl _ _) (Nat.le_refl _) (by simp) ?_; (case hd => rfl); (case hg => rfl); (case hr => first | (go_simp; done) | (go_simp; rfl)); (case hp => exact (Reps.none _ _)); intro v214 w17 ho18 hb hg_ hnew_; clear hg_ hnew_; (first | rw [← Ny213.out] at ho18 | (simp only [Int.reduceToNat] at ho18; rw [← Ny213.out] at ho18)); have HO215 := Aside0.mk (Kd.R_lower (Kd.R_new' (Kd.R_newM (M := fun k_ => (P0_ k_ ∨ w.heap.size ≤ k_)) ho18 (by first | exact HK.out.1 | exact (show Kept w _ (fun k_ => P0_ k_) from by repeat (first | (with_reducible first | exact HK.out | apply Kept.alloc | apply Kept.drewN | apply Kept.drew) | exact HK.out)).1) (fun k_ h_ => .inr h_)) (Kd.R_lt (kr_ HO_0))) (below_size (bw_ HB))); replace HO_0 := Aside0.mk (Kd.R_elder' (kr_ HO_0) (Kd.R_base ho18) hb); replace HK := Aside0.mk (Kept.below (S := (fun k_ => P0_ k_)) (by repeat (first | (with_reducible first | exact HK.out | apply Kept.alloc | apply Kept.drewN | apply Kept.drew) | exact HK.out)) hb); replace HB := Aside0.mk (below_step (bw_ HB) hb); clear hb ho18; have q19 : (x5_1 : Int) ≤ ((l0.length : Int) : Int) := dA_; obtain ⟨i019, hi019, _, hsz19, _⟩ := info_parts info9; have hroom19 : l0.length ≤ co16 := (Kd.R_reads' HO_0.out).2.1; have hC19 : Kd.C Kd.string _ (some ad211) l0.length l0 := (Kd.R_reads' HO_0.out).2.2; have hcut19 := cut_to (P := Tryz.prog) 29 9 .i64 Tryz.underlying29 hi019 (some ad211) l0.length co16 x5_1 (dA_) q19 hroom19; have hr19 := Kd.C_take (m := (x5_1 : Int).toNat) hC19 (by omega); have hy19 : y216.length = (x5_1 : Int).toNat := (by rw [Ny216.out, List.length_take]; omega); rw [← Ny216.out] at hr19; rw [← hy19] at hcut19; have HR219 := Aside0.mk hr19; have HC219 := Aside0.mk (show y216.length ≤ co16 from by omega); clear hr19 hC19 hroom19 hi019 hsz19; have KY19 := Aside0.mk hy19; clear hy19; have KL19 := Aside0.mk (show (x5_1 : Int).toNat ≤ l0.length from by omega); replace q19 := eq_true q19) | ((with_reducible refine gate_builtin (b := .append) (xs := #[.tmp 34, .tmp 37]) rfl ?_); at_builtin; refine Kd.R_append_rows Kd.string (w0 := w0) w0.heap.size rfl (.tmp 34) (.tmp 37) 29 9 (.string ⟨#[]⟩) 16 rfl Tryz.underlying29 info9 rfl (by decide) (by omega) v214 y213 y216 _ _ _ (fun k_ => (P0_ k_ ∨ w.heap.size ≤ k_) ∧ some k_ ≠ (.slice (some ad211) l0.length co16 : Value).ownBlock) (fun _ => False) rfl rfl ?aO ?aR (fun _ _ h => h) (fun _ h => h.elim) ?aF ?aB ?aS ?aL ?_; (case aR => repeat (first | exact (by repeat (first | (with_reducible exact HR219.out) | (with_reducible refine Kd.C_alloc ?_ _) | (with_reducible refine Kd.C_drewN ?_ _) | (with_reducible refine Kd.C_drew ?_) | exact HR219.out)) | (with_reducible refine Kd.C_alloc ?_ _) | (with_reducible refine Kd.C_drewN ?_ _) | (with_reducible refine Kd.C_drew ?_))); (case aB => exact (bw_ HB)); (case aF => exact (fun k_ hk => ⟨(.inr (Nat.le_trans (by first | exact HK.out.1 | exact (show Kept w _ (fun k_ => P0_ k_) from by repeat (first | (with_reducible first | exact HK.out | apply Kept.alloc | apply Kept.drewN | apply Kept.drew) | exact HK.out)).1) hk)), Kd.fresh' (Kd.R_lt (kr_ HO_0)) k_ hk⟩)); (case aO => exact (by (with_reducible repeat (first | apply Kd.R_alloc | apply Kd.R_drewN | apply Kd.R_drew)); exact Kd.R_mono HO215.out (fun _ hk => ⟨hk.1.1, hk.2⟩))); (case aS => exact (below_size (bw_ HB))); (case aL => have := LMc11.out; omega); intro v221 w20 ho hb hg hat; rw [← Ny220.out] at ho; replace HB := Aside0.mk (hb); replace HK := Aside0.mk (Kept.of_grown (S := (fun k_ => P0_ k_)) hg (by repeat (first | (with_reducible first | exact HK.out | apply Kept.alloc | apply Kept.drewN | apply Kept.drew) | exact HK.out)) (fun k_ e_ => (HO215.out.1 k_ e_).1.1)); replace HR219 := Aside0.mk ((show Kd.C Kd.string w20 (some ad211) y216.length y216 from by rw [Ny216.out]; exact Kd.C_take (m := (x5_1 : Int).toNat) ((Kd.R_reads' (Kd.R_after (ok := (fun k_ => (P0_ k_ ∨ w.heap.size ≤ k_))) (kr_ HO_0) hg hat)).2.2) KL19.out)); replace HO_0 := Aside0.mk (Kd.R_after (ok := (fun k_ => (P0_ k_ ∨ w.heap.size ≤ k_))) (kr_ HO_0) hg hat); have HO222 := Aside0.mk (ho); clear HO215; clear ho hb hg hat))
       replace HO_0 := Aside0.mk (Kd.R_drew HO_0.out)
       replace HO222 := Aside0.mk (Kd.R_drew HO222.out)
       replace HR219 := Aside0.mk (Kd.C_drew HR219.out)
       replace HK := Aside0.mk (Kept.drew HK.out)
       replace HB := Aside0.mk (below_drew1 HB.out)
       have q22 : (x5_1 : Int) ≤ ((l0.length : Int) : Int) := dA_
       obtain ⟨i022, hi022, _, hsz22, _⟩ := info_parts info9
       have hroom22 : l0.length ≤ co16 := (Kd.R_reads' HO_0.out).2.1
       have hC22 : Kd.C Kd.string _ (some ad211) l0.length l0 := (Kd.R_reads' HO_0.out).2.2
       have q022 : (0 : Int) ≤ (x5_1 : Int) := dA_
       have hcut22 := cut_from (P := Tryz.prog) 29 9 .i64 Tryz.underlying29 hi022 1 hsz22 (some ad211) l0.length co16 x5_1 q022 q22
       have hr22 := Kd.C_drop (m := (x5_1 : Int).toNat) (c := co16) hC22 (by omega) hroom22
       obtain ⟨A22, hA22⟩ : ∃ A1, A1 = (if co16 = (x5_1 : Int).toNat then (some ad211) else ((some ad211) : Option Addr).map (·.add ((x5_1 : Int).toNat * 1))) := ⟨_, rfl⟩
       obtain ⟨c22, hc22⟩ : ∃ c1, c1 = co16 - (x5_1 : Int).toNat := ⟨_, rfl⟩
       have hy22 : y226.length = l0.length - (x5_1 : Int).toNat := (by rw [Ny226.out, List.length_drop] <;> omega)
       rw [show (l0).drop (x5_1 : Int).toNat = y226 from Ny226.out.symm] at hr22
       replace hr22 : Kd.C Kd.string _ A22 y226.length y226 := (by rw [hA22]; exact hr22)
       rw [← hy22, ← hA22, ← hc22] at hcut22
       have HR229 := Aside0.mk hr22
       have HC229 := Aside0.mk (show y226.length ≤ c22 from by rw [hy22, hc22]; exact Nat.sub_le_sub_right hroom22 _)
       clear hr22 hC22 hroom22 hi022 hsz22 hc22
       have KY22 := Aside0.mk hy22
       have KA22 := Aside0.mk hA22
       clear hy22 hA22
       have KL22 := Aside0.mk (show (x5_1 : Int).toNat ≤ l0.length from by omega)
       replace q22 := eq_true q22
       refine start_ (n := 9) (S := fun w' => True) (ds := []) (bs_ 9 0) (by kernel_rfl) rfl (by kernel_rfl) trivial (fun hHeld => ?_); refine with_tabW spec_l3Add.tab7 spec_l3Add.bits7 (fun HT_ HW_ => ?_)
       generalize w20.drew = w21 at HO_0 HO222 HR219 HK HB HR229 hHeld ⊢
       refine pS_ 0 ?_
       refine pS_ 1 ?_
       refine pS_ 4 ?_
       refine pS_ 5 ?_
       refine pS_ 6 ?_
       refine oS_ 2 (fun K hK => ?_)
       refine value_ (w1 := ?_) (v := ?_) (by rfl) rfl ?_ ?_
       rotate_left 2
       {
       go_simp
       constructor
       {
       rfl}
       {
       rfl}}
       refine hK.out _ _ trivial (fun hHeld => ?_)
       clear hK K
       refine nS_ 41 ?_
       refine oS_ 3 (fun K hK => ?_)
       refine Kd.R_append_step Kd.string (w0 := w0) w0.heap.size (by rfl) (.tmp 39) (.tmp 41) 29 9 (.string ⟨#[]⟩) 16 rfl Tryz.underlying29 info9 rfl (by decide) (by omega) v221 y220 a1 [.string a1] (fun k_ => (P0_ k_ ∨ w.heap.size ≤ k_) ∧ some k_ ≠ (.slice (some ad211) l0.length co16 : Value).ownBlock) (fun _ => False) rfl rfl ?aP (fun _ hk => hk.elim) ?aF ?aO ?aB ?aS ?aL ?_
       (case aP => exact rfl)
       (case aB => exact (bw_ HB))
       (case aF => exact (fun k_ hk => ⟨(.inr (Nat.le_trans (by first | exact HK.out.1 | exact (show Kept w _ (fun k_ => P0_ k_) from by repeat (first | (with_reducible first | exact HK.out | apply Kept.alloc | apply Kept.drewN | apply Kept.drew) | exact HK.out)).1) hk)), Kd.fresh' (Kd.R_lt (kr_ HO_0)) k_ hk⟩))
       (case aO => exact (kr_ HO222))
       (case aS => exact (below_size (bw_ HB)))
       (case aL => have := LMc12.out; omega)
       intro v224 w23 ho hb hg hat
       rw [← Ny223.out] at ho
       replace HB := Aside0.mk (hb)
       replace HK := Aside0.mk (Kept.of_grown (S := (fun k_ => P0_ k_)) hg (by repeat (first | (with_reducible first | exact HK.out | apply Kept.alloc | apply Kept.drewN | apply Kept.drew) | exact HK.out)) (fun k_ e_ => (HO222.out.1 k_ e_).1))
       replace HR219 := Aside0.mk ((show Kd.C Kd.string w23 (some ad211) y216.length y216 from by rw [Ny216.out]; exact Kd.C_take (m := (x5_1 : Int).toNat) ((Kd.R_reads' (Kd.R_after (ok := (fun k_ => (P0_ k_ ∨ w.heap.size ≤ k_))) (kr_ HO_0) hg hat)).2.2) KL19.out))
       replace HR229 := Aside0.mk ((show Kd.C Kd.string w23 A22 y226.length y226 from by rw [Ny226.out, KA22.out]; exact Kd.C_drop (m := (x5_1 : Int).toNat) (c := co16) ((Kd.R_reads' (Kd.R_after (ok := (fun k_ => (P0_ k_ ∨ w.heap.size ≤ k_))) (kr_ HO_0) hg hat)).2.2) KL22.out ((Kd.R_reads' (Kd.R_after (ok := (fun k_ => (P0_ k_ ∨ w.heap.size ≤ k_))) (kr_ HO_0) hg hat)).2.1)))
       replace HO_0 := Aside0.mk (Kd.R_after (ok := (fun k_ => (P0_ k_ ∨ w.heap.size ≤ k_))) (kr_ HO_0) hg hat)
       have HO225 := Aside0.mk (ho)
       clear HO222
       clear ho hb hg hat
       refine hK.out _ _ trivial (fun hHeld => ?_)
       clear hK K
       refine nS_ 42 ?_
       refine oS_ 7 (fun K hK => ?_)
       refine Kd.R_append_rows_step Kd.string (w0 := w0) w0.heap.size (by rfl) (.tmp 42) (.tmp 45) 29 9 (.string ⟨#[]⟩) 16 rfl Tryz.underlying29 info9 rfl (by decide) (by omega) v224 y223 y226 _ _ _ (fun k_ => (P0_ k_ ∨ w.heap.size ≤ k_) ∧ some k_ ≠ (.slice (some ad211) l0.length co16 : Value).ownBlock) (fun _ => False) rfl rfl ?aO ?aR (fun _ _ h => h) (fun _ h => h.elim) ?aF ?aB ?aS ?aL ?_
       (case aR => repeat (first | exact (by repeat (first | (with_reducible exact HR229.out) | (with_reducible refine Kd.C_alloc ?_ _) | (with_reducible refine Kd.C_drewN ?_ _) | (with_reducible refine Kd.C_drew ?_) | exact HR229.out)) | (with_reducible refine Kd.C_alloc ?_ _) | (with_reducible refine Kd.C_drewN ?_ _) | (with_reducible refine Kd.C_drew ?_)))
       (case aB => exact (bw_ HB))
       (case aF => exact (fun k_ hk => ⟨(.inr (Nat.le_trans (by first | exact HK.out.1 | exact (show Kept w _ (fun k_ => P0_ k_) from by repeat (first | (with_reducible first | exact HK.out | apply Kept.alloc | apply Kept.drewN | apply Kept.drew) | exact HK.out)).1) hk)), Kd.fresh' (Kd.R_lt (kr_ HO_0)) k_ hk⟩))
       (case aO => exact (kr_ HO225))
       (case aS => exact (below_size (bw_ HB)))
       (case aL => have := LMc15.out; omega)
       intro v231 w24 ho hb hg hat
       rw [← Ny230.out] at ho
       replace HB := Aside0.mk (hb)
       replace HK := Aside0.mk (Kept.of_grown (S := (fun k_ => P0_ k_)) hg (by repeat (first | (with_reducible first | exact HK.out | apply Kept.alloc | apply Kept.drewN | apply Kept.drew) | exact HK.out)) (fun k_ e_ => (HO225.out.1 k_ e_).1))
       replace HR219 := Aside0.mk ((show Kd.C Kd.string w24 (some ad211) y216.length y216 from by rw [Ny216.out]; exact Kd.C_take (m := (x5_1 : Int).toNat) ((Kd.R_reads' (Kd.R_after (ok := (fun k_ => (P0_ k_ ∨ w.heap.size ≤ k_))) (kr_ HO_0) hg hat)).2.2) KL19.out))
       replace HR229 := Aside0.mk ((show Kd.C Kd.string w24 A22 y226.length y226 from by rw [Ny226.out, KA22.out]; exact Kd.C_drop (m := (x5_1 : Int).toNat) (c := co16) ((Kd.R_reads' (Kd.R_after (ok := (fun k_ => (P0_ k_ ∨ w.heap.size ≤ k_))) (kr_ HO_0) hg hat)).2.2) KL22.out ((Kd.R_reads' (Kd.R_after (ok := (fun k_ => (P0_ k_ ∨ w.heap.size ≤ k_))) (kr_ HO_0) hg hat)).2.1)))
       replace HO_0 := Aside0.mk (Kd.R_after (ok := (fun k_ => (P0_ k_ ∨ w.heap.size ≤ k_))) (kr_ HO_0) hg hat)
       have HO232 := Aside0.mk (ho)
       clear HO225
       clear ho hb hg hat
       refine hK.out _ _ trivial (fun hHeld => ?_)
       clear hK K
       refine nS_ 46 ?_
       refine pS_ 8 ?_
       refine done_ (done_of HT_.out (by kernel_rfl)) ?_
       try go_wp2
       go_ret
       exact ⟨_, eR_, by (with_reducible repeat (first | apply Kd.R_alloc | apply Kd.R_drewN | apply Kd.R_drew)); exact Kd.R_mono HO232.out (fun _ hk => hk.1), bw_ HB, by repeat (first | (with_reducible first | exact HK.out | apply Kept.alloc | apply Kept.drewN | apply Kept.drew) | exact HK.out)⟩}
       {
       rw [if_neg c15] at H
       exact absurd H (by simp)}}
       {
       rw [if_neg c12] at H
       exact absurd H (by simp)}}
       {
       rw [if_neg c11] at H
       exact absurd H (by simp)}}
       {
       rw [if_neg c10] at H
       exact absurd H (by simp)}}}}
       {
       rw [if_neg c4] at H
       exact absurd H (by simp)}}
       {
       rw [if_neg c3] at H
       have c3b0 := decide_eq_false c3
       clear c3
       obtain ⟨y233, hy233⟩ : ∃ y_ : List ByteArray, y_ = (([] : List ByteArray)) := ⟨_, rfl⟩
       replace H : (if 0 ≤ x5_1 then (if x5_1 ≤ (l0.length : Int) then ((some (l0.take (x5_1 : Int).toNat : List ByteArray)).bind fun y236 => (if y233.length + y236.length < 8796093022208 then ((some (y233 ++ y236 : List ByteArray)).bind fun y240 => (if y240.length < 8796093022208 then ((some (y240 ++ [a1] : List ByteArray)).bind fun y243 => ((some (l0.drop (x5_1 : Int).toNat : List ByteArray)).bind fun y246 => (if y243.length + y246.length < 8796093022208 then (some (y243 ++ y246)) else (none)))) else (none))) else (none))) else (none)) else (none)) = some r := rH_ hy233 H
       have Ny233 := Aside0.mk hy233
       clear hy233
       by_cases c25 : 0 ≤ x5_1
       {
       rw [if_pos c25] at H
       have c25b0 := eq_true c25
       have c25b1 := decide_eq_true c25
       clear c25
       by_cases c26 : x5_1 ≤ (l0.length : Int)
       {
       rw [if_pos c26] at H
       have c26b0 := eq_true c26
       have c26b1 := decide_eq_true c26
       clear c26
       obtain ⟨y236, hy236⟩ : ∃ y_ : List ByteArray, y_ = (l0.take (x5_1 : Int).toNat) := ⟨_, rfl⟩
       replace H : (if y233.length + y236.length < 8796093022208 then ((some (y233 ++ y236 : List ByteArray)).bind fun y240 => (if y240.length < 8796093022208 then ((some (y240 ++ [a1] : List ByteArray)).bind fun y243 => ((some (l0.drop (x5_1 : Int).toNat : List ByteArray)).bind fun y246 => (if y243.length + y246.length < 8796093022208 then (some (y243 ++ y246)) else (none)))) else (none))) else (none)) = some r := rH_ hy236 H
       have Ny236 := Aside0.mk hy236
       clear hy236
       by_cases c27 : y233.length + y236.length < 8796093022208
       {
       rw [if_pos c27] at H
       have LMc27 := Aside0.mk c27
       clear c27
       obtain ⟨y240, hy240⟩ : ∃ y_ : List ByteArray, y_ = (y233 ++ y236) := ⟨_, rfl⟩
       replace H : (if y240.length < 8796093022208 then ((some (y240 ++ [a1] : List ByteArray)).bind fun y243 => ((some (l0.drop (x5_1 : Int).toNat : List ByteArray)).bind fun y246 => (if y243.length + y246.length < 8796093022208 then (some (y243 ++ y246)) else (none)))) else (none)) = some r := rH_ hy240 H
       have Ny240 := Aside0.mk hy240
       clear hy240
       by_cases c28 : y240.length < 8796093022208
       {
       rw [if_pos c28] at H
       have LMc28 := Aside0.mk c28
       clear c28
       obtain ⟨y243, hy243⟩ : ∃ y_ : List ByteArray, y_ = (y240 ++ [a1]) := ⟨_, rfl⟩
       replace H : ((some (l0.drop (x5_1 : Int).toNat : List ByteArray)).bind fun y246 => (if y243.length + y246.length < 8796093022208 then (some (y243 ++ y246)) else (none))) = some r := rH_ hy243 H
       have Ny243 := Aside0.mk hy243
       clear hy243
       have c29b0 := eq_true (dA_ : 0 ≤ x5_1)
       have c30b0 := eq_true (dA_ : x5_1 ≤ (l0.length : Int))
       obtain ⟨y246, hy246⟩ : ∃ y_ : List ByteArray, y_ = (l0.drop (x5_1 : Int).toNat) := ⟨_, rfl⟩
       replace H : (if y243.length + y246.length < 8796093022208 then (some (y243 ++ y246)) else (none)) = some r := rH_ hy246 H
       have Ny246 := Aside0.mk hy246
       clear hy246
       by_cases c31 : y243.length + y246.length < 8796093022208
       {
       rw [if_pos c31] at H
       have LMc31 := Aside0.mk c31
       clear c31
       obtain ⟨y250, hy250⟩ : ∃ y_ : List ByteArray, y_ = (y243 ++ y246) := ⟨_, rfl⟩
       replace H : (some y250) = some r := rH_ hy250 H
       have Ny250 := Aside0.mk hy250
       clear hy250
       obtain rfl := Option.some.inj H
       obtain ⟨Ao32, co32, eo32⟩ := Kd.R_slice HO_0.out
       subst eo32
       try go_wp2_with (first | ((with_reducible refine gate_dst (N := 34) rfl ?_); refine Kd.R_lit Kd.string _ 9 ?hg (N := 34) ?hd (xs := ([] : List ByteArray)) (inner := []) (ok := fun _ => True) (okp := fun _ => True) ?hr ?hp (fun _ hk => hk) trivial (Below.refl _ _) (Nat.le_refl _) (by simp) ?_; (case hd => rfl); (case hg => rfl); (case hr => first | (go_simp; done) | (go_simp; rfl)); (case hp => exact (Reps.none _ _)); intro v234 w33 ho34 hb hg_ hnew_; clear hg_ hnew_; (first | rw [← Ny233.out] at ho34 | (simp only [Int.reduceToNat] at ho34; rw [← Ny233.out] at ho34)); have HO235 := Aside0.mk (Kd.R_lower (Kd.R_new' (Kd.R_newM (M := fun k_ => (P0_ k_ ∨ w.heap.size ≤ k_)) ho34 (by first | exact HK.out.1 | exact (show Kept w _ (fun k_ => P0_ k_) from by repeat (first | (with_reducible first | exact HK.out | apply Kept.alloc | apply Kept.drewN | apply Kept.drew) | exact HK.out)).1) (fun k_ h_ => .inr h_)) (Kd.R_lt (kr_ HO_0))) (below_size (bw_ HB))); replace HO_0 := Aside0.mk (Kd.R_elder' (kr_ HO_0) (Kd.R_base ho34) hb); replace HK := Aside0.mk (Kept.below (S := (fun k_ => P0_ k_)) (by repeat (first | (with_reducible first | exact HK.out | apply Kept.alloc | apply Kept.drewN | apply Kept.drew) | exact HK.out)) hb); replace HB := Aside0.mk (below_step (bw_ HB) hb); clear hb ho34; have q35 : (x5_1 : Int) ≤ ((l0.length : Int) : Int) := dA_; obtain ⟨i035, hi035, _, hsz35, _⟩ := info_parts info9; have hroom35 : l0.length ≤ co32 := (Kd.R_reads' HO_0.out).2.1; have hC35 : Kd.C Kd.string _ Ao32 l0.length l0 := (Kd.R_reads' HO_0.out).2.2; have hcut35 := cut_to (P := Tryz.prog) 29 9 .i64 Tryz.underlying29 hi035 Ao32 l0.length co32 x5_1 (dA_) q35 hroom35; have hr35 := Kd.C_take (m := (x5_1 : Int).toNat) hC35 (by omega); have hy35 : y236.length = (x5_1 : Int).toNat := (by rw [Ny236.out, List.length_take]; omega); rw [← Ny236.out] at hr35; rw [← hy35] at hcut35; have HR239 := Aside0.mk hr35; have HC239 := Aside0.mk (show y236.length ≤ co32 from by omega); clear hr35 hC35 hroom35 hi035 hsz35; have KY35 := Aside0.mk hy35; clear hy35; have KL35 := Aside0.mk (show (x5_1 : Int).toNat ≤ l0.length from by omega); replace q35 := eq_true q35) | ((with_reducible refine gate_builtin (b := .append) (xs := #[.tmp 34, .tmp 37]) rfl ?_); at_builtin; refine Kd.R_append_rows Kd.string (w0 := w0) w0.heap.size rfl (.tmp 34) (.tmp 37) 29 9 (.string ⟨#[]⟩) 16 rfl Tryz.underlying29 info9 rfl (by decide) (by omega) v234 y233 y236 _ _ _ (fun k_ => (P0_ k_ ∨ w.heap.size ≤ k_) ∧ some k_ ≠ (.slice Ao32 l0.length co32 : Value).ownBlock) (fun _ => False) rfl rfl ?aO ?aR (fun _ _ h => h) (fun _ h => h.elim) ?aF ?aB ?aS ?aL ?_; (case aR => repeat (first | exact (by repeat (first | (with_reducible exact HR239.out) | (with_reducible refine Kd.C_alloc ?_ _) | (with_reducible refine Kd.C_drewN ?_ _) | (with_reducible refine Kd.C_drew ?_) | exact HR239.out)) | (with_reducible refine Kd.C_alloc ?_ _) | (with_reducible refine Kd.C_drewN ?_ _) | (with_reducible refine Kd.C_drew ?_))); (case aB => exact (bw_ HB)); (case aF => exact (fun k_ hk => ⟨(.inr (Nat.le_trans (by first | exact HK.out.1 | exact (show Kept w _ (fun k_ => P0_ k_) from by repeat (first | (with_reducible first | exact HK.out | apply Kept.alloc | apply Kept.drewN | apply Kept.drew) | exact HK.out)).1) hk)), Kd.fresh' (Kd.R_lt (kr_ HO_0)) k_ hk⟩)); (case aO => exact (by (with_reducible repeat (first | apply Kd.R_alloc | apply Kd.R_drewN | apply Kd.R_drew)); exact Kd.R_mono HO235.out (fun _ hk => ⟨hk.1.1, hk.2⟩))); (case aS => exact (below_size (bw_ HB))); (case aL => have := LMc27.out; omega); intro v241 w36 ho hb hg hat; rw [← Ny240.out] at ho; replace HB := Aside0.mk (hb); replace HK := Aside0.mk (Kept.of_grown (S := (fun k_ => P0_ k_)) hg (by repeat (first | (with_reducible first | exact HK.out | apply Kept.alloc | apply Kept.drewN | apply Kept.drew) | exact HK.out)) (fun k_ e_ => (HO235.out.1 k_ e_).1.1)); replace HR239 := Aside0.mk ((show Kd.C Kd.string w36 Ao32 y236.length y236 from by rw [Ny236.out]; exact Kd.C_take (m := (x5_1 : Int).toNat) ((Kd.R_reads' (Kd.R_after (ok := (fun k_ => (P0_ k_ ∨ w.heap.size ≤ k_))) (kr_ HO_0) hg hat)).2.2) KL35.out)); replace HO_0 := Aside0.mk (Kd.R_after (ok := (fun k_ => (P0_ k_ ∨ w.heap.size ≤ k_))) (kr_ HO_0) hg hat); have HO242 := Aside0.mk (ho); clear HO235; clear ho hb hg hat))
       replace HO_0 := Aside0.mk (Kd.R_drew HO_0.out)
       replace HO242 := Aside0.mk (Kd.R_drew HO242.out)
       replace HR239 := Aside0.mk (Kd.C_drew HR239.out)
       replace HK := Aside0.mk (Kept.drew HK.out)
       replace HB := Aside0.mk (below_drew1 HB.out)
       have q38 : (x5_1 : Int) ≤ ((l0.length : Int) : Int) := dA_
       obtain ⟨i038, hi038, _, hsz38, _⟩ := info_parts info9
       have hroom38 : l0.length ≤ co32 := (Kd.R_reads' HO_0.out).2.1
       have hC38 : Kd.C Kd.string _ Ao32 l0.length l0 := (Kd.R_reads' HO_0.out).2.2
       have q038 : (0 : Int) ≤ (x5_1 : Int) := dA_
       have hcut38 := cut_from (P := Tryz.prog) 29 9 .i64 Tryz.underlying29 hi038 1 hsz38 Ao32 l0.length co32 x5_1 q038 q38
       have hr38 := Kd.C_drop (m := (x5_1 : Int).toNat) (c := co32) hC38 (by omega) hroom38
       obtain ⟨A38, hA38⟩ : ∃ A1, A1 = (if co32 = (x5_1 : Int).toNat then Ao32 else (Ao32 : Option Addr).map (·.add ((x5_1 : Int).toNat * 1))) := ⟨_, rfl⟩
       obtain ⟨c38, hc38⟩ : ∃ c1, c1 = co32 - (x5_1 : Int).toNat := ⟨_, rfl⟩
       have hy38 : y246.length = l0.length - (x5_1 : Int).toNat := (by rw [Ny246.out, List.length_drop] <;> omega)
       rw [show (l0).drop (x5_1 : Int).toNat = y246 from Ny246.out.symm] at hr38
       replace hr38 : Kd.C Kd.string _ A38 y246.length y246 := (by rw [hA38]; exact hr38)
       rw [← hy38, ← hA38, ← hc38] at hcut38
       have HR249 := Aside0.mk hr38
       have HC249 := Aside0.mk (show y246.length ≤ c38 from by rw [hy38, hc38]; exact Nat.sub_le_sub_right hroom38 _)
       clear hr38 hC38 hroom38 hi038 hsz38 hc38
       have KY38 := Aside0.mk hy38
       have KA38 := Aside0.mk hA38
       clear hy38 hA38
       have KL38 := Aside0.mk (show (x5_1 : Int).toNat ≤ l0.length from by omega)
       replace q38 := eq_true q38
       refine start_ (n := 9) (S := fun w' => True) (ds := []) (bs_ 9 0) (by kernel_rfl) rfl (by kernel_rfl) trivial (fun hHeld => ?_); refine with_tabW spec_l3Add.tab7 spec_l3Add.bits7 (fun HT_ HW_ => ?_)
       generalize w36.drew = w37 at HO_0 HO242 HR239 HK HB HR249 hHeld ⊢
       refine pS_ 0 ?_
       refine pS_ 1 ?_
       refine pS_ 4 ?_
       refine pS_ 5 ?_
       refine pS_ 6 ?_
       refine oS_ 2 (fun K hK => ?_)
       refine value_ (w1 := ?_) (v := ?_) (by rfl) rfl ?_ ?_
       rotate_left 2
       {
       go_simp
       constructor
       {
       rfl}
       {
       rfl}}
       refine hK.out _ _ trivial (fun hHeld => ?_)
       clear hK K
       refine nS_ 41 ?_
       refine oS_ 3 (fun K hK => ?_)
       refine Kd.R_append_step Kd.string (w0 := w0) w0.heap.size (by rfl) (.tmp 39) (.tmp 41) 29 9 (.string ⟨#[]⟩) 16 rfl Tryz.underlying29 info9 rfl (by decide) (by omega) v241 y240 a1 [.string a1] (fun k_ => (P0_ k_ ∨ w.heap.size ≤ k_) ∧ some k_ ≠ (.slice Ao32 l0.length co32 : Value).ownBlock) (fun _ => False) rfl rfl ?aP (fun _ hk => hk.elim) ?aF ?aO ?aB ?aS ?aL ?_
       (case aP => exact rfl)
       (case aB => exact (bw_ HB))
       (case aF => exact (fun k_ hk => ⟨(.inr (Nat.le_trans (by first | exact HK.out.1 | exact (show Kept w _ (fun k_ => P0_ k_) from by repeat (first | (with_reducible first | exact HK.out | apply Kept.alloc | apply Kept.drewN | apply Kept.drew) | exact HK.out)).1) hk)), Kd.fresh' (Kd.R_lt (kr_ HO_0)) k_ hk⟩))
       (case aO => exact (kr_ HO242))
       (case aS => exact (below_size (bw_ HB)))
       (case aL => have := LMc28.out; omega)
       intro v244 w39 ho hb hg hat
       rw [← Ny243.out] at ho
       replace HB := Aside0.mk (hb)
       replace HK := Aside0.mk (Kept.of_grown (S := (fun k_ => P0_ k_)) hg (by repeat (first | (with_reducible first | exact HK.out | apply Kept.alloc | apply Kept.drewN | apply Kept.drew) | exact HK.out)) (fun k_ e_ => (HO242.out.1 k_ e_).1))
       replace HR239 := Aside0.mk ((show Kd.C Kd.string w39 Ao32 y236.length y236 from by rw [Ny236.out]; exact Kd.C_take (m := (x5_1 : Int).toNat) ((Kd.R_reads' (Kd.R_after (ok := (fun k_ => (P0_ k_ ∨ w.heap.size ≤ k_))) (kr_ HO_0) hg hat)).2.2) KL35.out))
       replace HR249 := Aside0.mk ((show Kd.C Kd.string w39 A38 y246.length y246 from by rw [Ny246.out, KA38.out]; exact Kd.C_drop (m := (x5_1 : Int).toNat) (c := co32) ((Kd.R_reads' (Kd.R_after (ok := (fun k_ => (P0_ k_ ∨ w.heap.size ≤ k_))) (kr_ HO_0) hg hat)).2.2) KL38.out ((Kd.R_reads' (Kd.R_after (ok := (fun k_ => (P0_ k_ ∨ w.heap.size ≤ k_))) (kr_ HO_0) hg hat)).2.1)))
       replace HO_0 := Aside0.mk (Kd.R_after (ok := (fun k_ => (P0_ k_ ∨ w.heap.size ≤ k_))) (kr_ HO_0) hg hat)
       have HO245 := Aside0.mk (ho)
       clear HO242
       clear ho hb hg hat
       refine hK.out _ _ trivial (fun hHeld => ?_)
       clear hK K
       refine nS_ 42 ?_
       refine oS_ 7 (fun K hK => ?_)
       refine Kd.R_append_rows_step Kd.string (w0 := w0) w0.heap.size (by rfl) (.tmp 42) (.tmp 45) 29 9 (.string ⟨#[]⟩) 16 rfl Tryz.underlying29 info9 rfl (by decide) (by omega) v244 y243 y246 _ _ _ (fun k_ => (P0_ k_ ∨ w.heap.size ≤ k_) ∧ some k_ ≠ (.slice Ao32 l0.length co32 : Value).ownBlock) (fun _ => False) rfl rfl ?aO ?aR (fun _ _ h => h) (fun _ h => h.elim) ?aF ?aB ?aS ?aL ?_
       (case aR => repeat (first | exact (by repeat (first | (with_reducible exact HR249.out) | (with_reducible refine Kd.C_alloc ?_ _) | (with_reducible refine Kd.C_drewN ?_ _) | (with_reducible refine Kd.C_drew ?_) | exact HR249.out)) | (with_reducible refine Kd.C_alloc ?_ _) | (with_reducible refine Kd.C_drewN ?_ _) | (with_reducible refine Kd.C_drew ?_)))
       (case aB => exact (bw_ HB))
       (case aF => exact (fun k_ hk => ⟨(.inr (Nat.le_trans (by first | exact HK.out.1 | exact (show Kept w _ (fun k_ => P0_ k_) from by repeat (first | (with_reducible first | exact HK.out | apply Kept.alloc | apply Kept.drewN | apply Kept.drew) | exact HK.out)).1) hk)), Kd.fresh' (Kd.R_lt (kr_ HO_0)) k_ hk⟩))
       (case aO => exact (kr_ HO245))
       (case aS => exact (below_size (bw_ HB)))
       (case aL => have := LMc31.out; omega)
       intro v251 w40 ho hb hg hat
       rw [← Ny250.out] at ho
       replace HB := Aside0.mk (hb)
       replace HK := Aside0.mk (Kept.of_grown (S := (fun k_ => P0_ k_)) hg (by repeat (first | (with_reducible first | exact HK.out | apply Kept.alloc | apply Kept.drewN | apply Kept.drew) | exact HK.out)) (fun k_ e_ => (HO245.out.1 k_ e_).1))
       replace HR239 := Aside0.mk ((show Kd.C Kd.string w40 Ao32 y236.length y236 from by rw [Ny236.out]; exact Kd.C_take (m := (x5_1 : Int).toNat) ((Kd.R_reads' (Kd.R_after (ok := (fun k_ => (P0_ k_ ∨ w.heap.size ≤ k_))) (kr_ HO_0) hg hat)).2.2) KL35.out))
       replace HR249 := Aside0.mk ((show Kd.C Kd.string w40 A38 y246.length y246 from by rw [Ny246.out, KA38.out]; exact Kd.C_drop (m := (x5_1 : Int).toNat) (c := co32) ((Kd.R_reads' (Kd.R_after (ok := (fun k_ => (P0_ k_ ∨ w.heap.size ≤ k_))) (kr_ HO_0) hg hat)).2.2) KL38.out ((Kd.R_reads' (Kd.R_after (ok := (fun k_ => (P0_ k_ ∨ w.heap.size ≤ k_))) (kr_ HO_0) hg hat)).2.1)))
       replace HO_0 := Aside0.mk (Kd.R_after (ok := (fun k_ => (P0_ k_ ∨ w.heap.size ≤ k_))) (kr_ HO_0) hg hat)
       have HO252 := Aside0.mk (ho)
       clear HO245
       clear ho hb hg hat
       refine hK.out _ _ trivial (fun hHeld => ?_)
       clear hK K
       refine nS_ 46 ?_
       refine pS_ 8 ?_
       refine done_ (done_of HT_.out (by kernel_rfl)) ?_
       try go_wp2
       go_ret
       exact ⟨_, eR_, by (with_reducible repeat (first | apply Kd.R_alloc | apply Kd.R_drewN | apply Kd.R_drew)); exact Kd.R_mono HO252.out (fun _ hk => hk.1), bw_ HB, by repeat (first | (with_reducible first | exact HK.out | apply Kept.alloc | apply Kept.drewN | apply Kept.drew) | exact HK.out)⟩}
       {
       rw [if_neg c31] at H
       exact absurd H (by simp)}}
       {
       rw [if_neg c28] at H
       exact absurd H (by simp)}}
       {
       rw [if_neg c27] at H
       exact absurd H (by simp)}}
       {
       rw [if_neg c26] at H
       exact absurd H (by simp)}}
       {
       rw [if_neg c25] at H
       exact absurd H (by simp)
}}
def spec_l10Has.l0 : Nat → ByteArray → ByteArray → Int → Option (Bool)
 | 0, _, _, _ => none
 | k + 1, x0, x1, x5 => if (wrap64 (x5 + (x1.size : Int))) ≤ (x0.size : Int) then (if 0 ≤ x5 then (if x5 ≤ (wrap64 (x5 + (x1.size : Int))) then (if (x0.extract (x5 : Int).toNat ((wrap64 (x5 + (x1.size : Int))) : Int).toNat).toList = x1.toList then (some true) else (spec_l10Has.l0 k x0 x1 (wrap64 (x5 + 1)))) else (none)) else (none)) else (some false)
def spec_l10Has.f (k : Nat) (a0 : ByteArray) (a1 : ByteArray) : Option (Bool) := spec_l10Has.l0 k a0 a1 0
theorem spec_l10Has.calls (k : Nat) (a0 : ByteArray) (a1 : ByteArray) (r : Bool) (w : World) (h : spec_l10Has.f k a0 a1 = some r) :
 Calls Tryz.prog 94 #[.string a0, .string a1] w fun e w' => e = .returned (.bool r) ∧ Drawn0 w w' := by
 have H : (spec_l10Has.l0 k a0 a1 0) = some r := h
 clear h
 have H' := Aside0.mk H
 clear H
 go_enter Tryz.func94, Tryz.ntmps94
 go_wp2
 go_loopg [5] k (fun kq v5 w' => ∃ (x5_1 : Int), v5 = .int .i64 x5_1 ∧ Aside0 (spec_l10Has.l0 kq a0 a1 x5_1 = some r) ∧ Aside0 (kq ≤ k) ∧ Drawn0 w w')
 case atStart => exact ⟨(0), (by first | rfl | (simp; done) | (simp [*]; done)), H', ⟨Nat.le_refl _⟩, dR_⟩
 case round =>
  clear H'
  try clear p2
  obtain ⟨x5_1, rfl, HA, HK1, ⟨m1, rfl⟩⟩ := hrel
  cases gk with
  | zero => exact absurd HA.out (by simp [spec_l10Has.l0])
  | succ k1 =>
       have H := HA.out
       clear HA
       simp only [spec_l10Has.l0] at H
       by_cases c3 : (wrap64 (x5_1 + (a1.size : Int))) ≤ (a0.size : Int)
       {
       rw [if_pos c3] at H
       have c3b0 := decide_eq_true c3
       clear c3
       by_cases c4 : 0 ≤ x5_1
       {
       rw [if_pos c4] at H
       have c4b0 := eq_true c4
       have c4b1 := decide_eq_true c4
       clear c4
       by_cases c5 : x5_1 ≤ (wrap64 (x5_1 + (a1.size : Int)))
       {
       rw [if_pos c5] at H
       have c5b0 := eq_true c5
       have c5b1 := decide_eq_true c5
       have c6b0 := eq_true (dA_ : (wrap64 (x5_1 + (a1.size : Int))) ≤ (a0.size : Int))
       by_cases c7 : (a0.extract (x5_1 : Int).toNat ((wrap64 (x5_1 + (a1.size : Int))) : Int).toNat).toList = a1.toList
       {
       rw [if_pos c7] at H
       have c7b0 : ((a0.extract (x5_1 : Int).toNat ((wrap64 (x5_1 + (a1.size : Int))) : Int).toNat).toList == a1.toList) = true := beq_iff_eq.mpr c7
       have c7b1 : ((a0.extract (x5_1 : Int).toNat ((wrap64 (x5_1 + (a1.size : Int))) : Int).toNat).toList != a1.toList) = false := bne_eq_false_iff_eq.mpr c7
       clear c7
       obtain rfl := Option.some.inj H
       go_wp2
       go_ret
       exact ⟨eS_, dR_⟩}
       {
       rw [if_neg c7] at H
       have c7b0 : ((a0.extract (x5_1 : Int).toNat ((wrap64 (x5_1 + (a1.size : Int))) : Int).toNat).toList == a1.toList) = false := beq_eq_false_iff_ne.mpr c7
       have c7b1 : ((a0.extract (x5_1 : Int).toNat ((wrap64 (x5_1 + (a1.size : Int))) : Int).toNat).toList != a1.toList) = true := bne_iff_ne.mpr c7
       have H' := Aside0.mk H
       clear H
       go_wp2
       go_roundg k1
       case measure => have := HK1.out; omega
       case rel => exact ⟨(wrap64 (x5_1 + 1)), (by first | rfl | (simp; done) | (simp [*]; done)), H', ⟨by have := HK1.out; omega⟩, dR_⟩}}
       {
       rw [if_neg c5] at H
       exact absurd H (by simp)}}
       {
       rw [if_neg c4] at H
       exact absurd H (by simp)}}
       {
       rw [if_neg c3] at H
       have c3b0 := decide_eq_false c3
       clear c3
       obtain rfl := Option.some.inj H
       go_wp2
       go_ret
       exact ⟨eS_, dR_⟩
}
mutual
def spec_l10Refs.l0 : Nat → List (S57) → List ByteArray → List ByteArray → Int → Option (List ByteArray)
 | 0, _, _, _, _ => none
 | k + 1, x0, x1, x5, x6 => if x6 < (x1.length : Int) then (if 0 ≤ x6 then ((spec_AddressOk.f k (rdOf ByteArray.empty x1 x6)).bind fun t257 => (if t257 = true then (spec_l10Refs.l1 k x0 x1 x5 x6 0) else (spec_l10Refs.l0 k x0 x1 x5 (wrap64 (x6 + 1))))) else (none)) else (some x5)
def spec_l10Refs.l1 : Nat → List (S57) → List ByteArray → List ByteArray → Int → Int → Option (List ByteArray)
 | 0, _, _, _, _, _ => none
 | k + 1, x0, x1, x5, x6, x7 => if x7 < (x0.length : Int) then (if 0 ≤ x7 then (if 0 ≤ x6 then (if x6 < (x1.length : Int) then (if 0 ≤ 13 then (if 13 ≤ ((rdOf ByteArray.empty x1 x6).size : Int) then ((spec_l10Has.f k ((rd_T57 x0 x7).f2) ((rdOf ByteArray.empty x1 x6).extract 0 13)).bind fun t260 => (if t260 = true then ((spec_l3Add.f k x5 (rdOf ByteArray.empty x1 x6)).bind fun t262 => (spec_l10Refs.l0 k x0 x1 t262 (wrap64 (x6 + 1)))) else (spec_l10Refs.l1 k x0 x1 x5 x6 (wrap64 (x7 + 1))))) else (none)) else (none)) else (none)) else (none)) else (none)) else (spec_l10Refs.l0 k x0 x1 x5 (wrap64 (x6 + 1)))
end
def spec_l10Refs.f (k : Nat) (l0 : List (S57)) (l1 : List ByteArray) : Option (List ByteArray) := spec_l10Refs.l0 k l0 l1 (([] : List ByteArray)) 0
theorem spec_l10Refs.calls (k : Nat) (A0 : Option Addr) (c0 : Nat) (l0 : List (S57)) (A1 : Option Addr) (c1 : Nat) (l1 : List ByteArray) (r : List ByteArray) (w : World) (hr0 : Kd.C k57 w A0 l0.length l0) (hc0 : l0.length ≤ c0) (hr1 : Kd.C Kd.string w A1 l1.length l1) (hc1 : l1.length ≤ c1) (h : spec_l10Refs.f k l0 l1 = some r) :
 Calls Tryz.prog 74 #[.slice A0 l0.length c0, .slice A1 l1.length c1] w fun e w' => ∃ v0_ : Value, e = .returned (v0_) ∧ Kd.R Kd.string 9 w' w.heap.size (fun _ => True) v0_ r ∧ Below w.heap.size w w' := by
 have HR0 := Aside0.mk hr0
 have HC0 := Aside0.mk hc0
 clear hr0 hc0
 have HR1 := Aside0.mk hr1
 have HC1 := Aside0.mk hc1
 clear hr1 hc1
 have HB := Aside0.mk (Below.refl w.heap.size w)
 have H : (spec_l10Refs.l0 k l0 l1 (([] : List ByteArray)) 0) = some r := h
 clear h
 obtain ⟨y253, hy253⟩ : ∃ y_ : List ByteArray, y_ = (([] : List ByteArray)) := ⟨_, rfl⟩
 replace H : (spec_l10Refs.l0 k l0 l1 y253 0) = some r := rH_ hy253 H
 have Ny253 := Aside0.mk hy253
 clear hy253
 have H' := Aside0.mk H
 clear H
 go_enter Tryz.func74, Tryz.ntmps74
 go_wp2_with (first | ((with_reducible refine gate_dst (N := 8) rfl ?_); refine Kd.R_lit Kd.string _ 9 ?hg (N := 8) ?hd (xs := ([] : List ByteArray)) (inner := []) (ok := fun _ => True) (okp := fun _ => True) ?hr ?hp (fun _ hk => hk) trivial (Below.refl _ _) (Nat.le_refl _) (by simp) ?_; (case hd => rfl); (case hg => rfl); (case hr => first | (go_simp; done) | (go_simp; rfl)); (case hp => exact (Reps.none _ _)); intro v254 w3 ho4 hb hg_ hnew_; clear hg_ hnew_; (first | rw [← Ny253.out] at ho4 | (simp only [Int.reduceToNat] at ho4; rw [← Ny253.out] at ho4)); have HO255 := Aside0.mk (Kd.R_lower ho4 (below_size (bw_ HB))); replace HB := Aside0.mk (below_step (bw_ HB) hb); clear hb ho4))
 repeat (go_quiet (first | ((with_reducible refine gate_dst (N := 8) rfl ?_); refine Kd.R_lit Kd.string _ 9 ?hg (N := 8) ?hd (xs := ([] : List ByteArray)) (inner := []) (ok := fun _ => True) (okp := fun _ => True) ?hr ?hp (fun _ hk => hk) trivial (Below.refl _ _) (Nat.le_refl _) (by simp) ?_; (case hd => rfl); (case hg => rfl); (case hr => first | (go_simp; done) | (go_simp; rfl)); (case hp => exact (Reps.none _ _)); intro v254 w3 ho4 hb hg_ hnew_; clear hg_ hnew_; (first | rw [← Ny253.out] at ho4 | (simp only [Int.reduceToNat] at ho4; rw [← Ny253.out] at ho4)); have HO255 := Aside0.mk (Kd.R_lower ho4 (below_size (bw_ HB))); replace HB := Aside0.mk (below_step (bw_ HB) hb); clear hb ho4)); try go_wp2_with (first | ((with_reducible refine gate_dst (N := 8) rfl ?_); refine Kd.R_lit Kd.string _ 9 ?hg (N := 8) ?hd (xs := ([] : List ByteArray)) (inner := []) (ok := fun _ => True) (okp := fun _ => True) ?hr ?hp (fun _ hk => hk) trivial (Below.refl _ _) (Nat.le_refl _) (by simp) ?_; (case hd => rfl); (case hg => rfl); (case hr => first | (go_simp; done) | (go_simp; rfl)); (case hp => exact (Reps.none _ _)); intro v254 w3 ho4 hb hg_ hnew_; clear hg_ hnew_; (first | rw [← Ny253.out] at ho4 | (simp only [Int.reduceToNat] at ho4; rw [← Ny253.out] at ho4)); have HO255 := Aside0.mk (Kd.R_lower ho4 (below_size (bw_ HB))); replace HB := Aside0.mk (below_step (bw_ HB) hb); clear hb ho4)))
 go_loopg [5, 6] k (fun kq v5 v6 w' => ∃ (x5_1 : List ByteArray) (x6_1 : Int), v6 = .int .i64 x6_1 ∧ Aside0 (spec_l10Refs.l0 kq l0 l1 x5_1 x6_1 = some r) ∧ Aside0 (kq ≤ k) ∧ Aside0 (Kd.R Kd.string 9 w' w.heap.size (fun _ => True) v5 x5_1) ∧ Aside0 (Below w.heap.size w w'))
 case atStart => exact ⟨(y253), (0), (by first | rfl | (simp; done) | (simp [*]; done)), H', ⟨Nat.le_refl _⟩, ⟨kr_ HO255⟩, ⟨bw_ HB⟩⟩
 case round =>
  clear H'
  try clear c1
  try clear p2
  obtain ⟨x5_1, x6_1, rfl, HA, HK1, HO_5, HB⟩ := hrel
  cases gk with
  | zero => exact absurd HA.out (by simp [spec_l10Refs.l0])
  | succ k1 =>
       have H := HA.out
       clear HA
       simp only [spec_l10Refs.l0] at H
       by_cases c5 : x6_1 < (l1.length : Int)
       {
       rw [if_pos c5] at H
       have c5b0 := decide_eq_true c5
       clear c5
       by_cases c6 : 0 ≤ x6_1
       {
       rw [if_pos c6] at H
       have c6b0 := decide_eq_true c6
       clear c6
       replace H := Option.bind_eq_some_iff.mp H
       obtain ⟨t257, A70, H⟩ := H
       have A7 := Aside0.mk A70
       clear A70
       by_cases c8 : t257 = true
       {
       subst c8
       rw [if_pos rfl] at H
       have H' := Aside0.mk H
       clear H
       have p256 : 0 ≤ (x6_1 : Int) := dA_
       have q256 : x6_1 < (l1.length : Int) := dA_
       obtain ⟨ad256, e256, hx256_0⟩ := Kd.at_string HR1.out x6_1 p256 q256
       cases e256
       replace hx256_0 := hX_ HB hx256_0
       replace p256 := eq_true p256
       replace q256 := eq_true q256
       go_wp2_with (first | (go_at_call 43; (with_reducible refine (spec_AddressOk.calls k1 (rdOf ByteArray.empty l1 x6_1) true _ A7.out).mono ?_); rintro e w' ⟨rfl, ⟨nd, rfl⟩⟩; (try first | exact ⟨rfl, _, World.drewN_drewN _ _ _⟩ | exact ⟨rfl, _, Eq.trans (World.drewN_drewN _ _ _) (congrArg (World.drewN _) (Nat.add_assoc _ _ _))⟩)))
       repeat (go_quiet (first | (go_at_call 43; (with_reducible refine (spec_AddressOk.calls k1 (rdOf ByteArray.empty l1 x6_1) true _ A7.out).mono ?_); rintro e w' ⟨rfl, ⟨nd, rfl⟩⟩; (try first | exact ⟨rfl, _, World.drewN_drewN _ _ _⟩ | exact ⟨rfl, _, Eq.trans (World.drewN_drewN _ _ _) (congrArg (World.drewN _) (Nat.add_assoc _ _ _))⟩))); try go_wp2_with (first | (go_at_call 43; (with_reducible refine (spec_AddressOk.calls k1 (rdOf ByteArray.empty l1 x6_1) true _ A7.out).mono ?_); rintro e w' ⟨rfl, ⟨nd, rfl⟩⟩; (try first | exact ⟨rfl, _, World.drewN_drewN _ _ _⟩ | exact ⟨rfl, _, Eq.trans (World.drewN_drewN _ _ _) (congrArg (World.drewN _) (Nat.add_assoc _ _ _))⟩))))
       go_loopg [5, 7] k1 (fun kq v5 v7 w' => ∃ (x5_2 : List ByteArray) (x7_2 : Int), v7 = .int .i64 x7_2 ∧ Aside0 (spec_l10Refs.l1 kq l0 l1 x5_2 x6_1 x7_2 = some r) ∧ Aside0 (kq ≤ k1) ∧ Aside0 (Kd.R Kd.string 9 w' w.heap.size (fun _ => True) v5 x5_2) ∧ Aside0 (Below w.heap.size w w'))
       case atStart => exact ⟨(x5_1), (0), (by first | rfl | (simp; done) | (simp [*]; done)), H', ⟨Nat.le_refl _⟩, ⟨kr_ HO_5⟩, ⟨bw_ HB⟩⟩
       case round =>
        clear H'
        try clear c1
        try clear p2
        try clear q2
        try clear hx2
        try clear c5
        try clear c5b0
        try clear c6
        try clear c6b0
        try clear p6
        try clear c7
        try clear c8
        try clear hx256_0
        try clear p2
        try clear p256
        try clear q256
        obtain ⟨x5_2, x7_2, rfl, HA, HK2, HO_5, HB⟩ := hrel
        cases gk with
        | zero => exact absurd HA.out (by simp [spec_l10Refs.l1])
        | succ k2 =>
             have H := HA.out
             clear HA
             simp only [spec_l10Refs.l1] at H
             by_cases c9 : x7_2 < (l0.length : Int)
             {
             rw [if_pos c9] at H
             have c9b0 := decide_eq_true c9
             clear c9
             by_cases c10 : 0 ≤ x7_2
             {
             rw [if_pos c10] at H
             have c10b0 := decide_eq_true c10
             clear c10
             by_cases c11 : 0 ≤ x6_1
             {
             rw [if_pos c11] at H
             have c11b0 := decide_eq_true c11
             clear c11
             by_cases c12 : x6_1 < (l1.length : Int)
             {
             rw [if_pos c12] at H
             have c12b0 := decide_eq_true c12
             clear c12
             by_cases c13 : 0 ≤ 13
             {
             rw [if_pos c13] at H
             have c13b0 := eq_true c13
             have c13b1 := decide_eq_true c13
             clear c13
             by_cases c14 : 13 ≤ ((rdOf ByteArray.empty l1 x6_1).size : Int)
             {
             rw [if_pos c14] at H
             have c14b0 := eq_true c14
             have c14b1 := decide_eq_true c14
             clear c14
             replace H := Option.bind_eq_some_iff.mp H
             obtain ⟨t260, A150, H⟩ := H
             have A15 := Aside0.mk A150
             clear A150
             by_cases c16 : t260 = true
             {
             subst c16
             rw [if_pos rfl] at H
             replace H := Option.bind_eq_some_iff.mp H
             obtain ⟨t262, A170, H⟩ := H
             have A17 := Aside0.mk A170
             clear A170
             have H' := Aside0.mk H
             clear H
             have p258 : 0 ≤ (x7_2 : Int) := dA_
             have q258 : x7_2 < (l0.length : Int) := dA_
             obtain ⟨ad258, e258, hx258_0, hx258_1, hx258_2, hx258_3⟩ := at_T57 HR0.out x7_2 p258 q258
             cases e258
             replace hx258_0 := hX_ HB hx258_0
             replace hx258_1 := hX_ HB hx258_1
             replace hx258_2 := hX_ HB hx258_2
             replace hx258_3 := hX_ HB hx258_3
             replace p258 := eq_true p258
             replace q258 := eq_true q258
             have p259 : 0 ≤ (x6_1 : Int) := dA_
             have q259 : x6_1 < (l1.length : Int) := dA_
             obtain ⟨ad259, e259, hx259_0⟩ := Kd.at_string HR1.out x6_1 p259 q259
             obtain rfl : ad256 = ad259 := (by injection e259)
             replace hx259_0 := hX_ HB hx259_0
             replace p259 := eq_true p259
             replace q259 := eq_true q259
             go_wp2_with (first | (go_at_call 94; (with_reducible refine (spec_l10Has.calls k2 ((rd_T57 l0 x7_2).f2) ((rdOf ByteArray.empty l1 x6_1).extract 0 13) true _ A15.out).mono ?_); rintro e w' ⟨rfl, ⟨nd, rfl⟩⟩; (try first | exact ⟨rfl, _, World.drewN_drewN _ _ _⟩ | exact ⟨rfl, _, Eq.trans (World.drewN_drewN _ _ _) (congrArg (World.drewN _) (Nat.add_assoc _ _ _))⟩); have p261 : 0 ≤ (x6_1 : Int) := dA_; have q261 : x6_1 < (l1.length : Int) := dA_; obtain ⟨ad261, e261, hx261_0⟩ := Kd.at_string HR1.out x6_1 p261 q261; obtain rfl : ad256 = ad261 := (by injection e261); replace hx261_0 := hX_ HB hx261_0; replace p261 := eq_true p261; replace q261 := eq_true q261; obtain ⟨Ao18, co18, eo18⟩ := Kd.R_slice HO_5.out; subst eo18) | (go_at_call 67; (with_reducible refine (spec_l3Add.calls k2 (fun k_ => some k_ = (.slice Ao18 x5_2.length co18 : Value).ownBlock) (.slice Ao18 x5_2.length co18) x5_2 (rdOf ByteArray.empty l1 x6_1) t262 w _ ?side1 ?side2 A17.out).mono ?_); (case side1 => repeat (first | (with_reducible first | exact HB.out | apply below_alloc | apply pw_below_drewN | apply below_drew1) | exact HB.out)); (case side2 => exact Kd.R_tight rfl HO_5.out); rintro e w19 ⟨v263, rfl, ho0, hb, hkp⟩; have HO264 := Aside0.mk (Kd.R_mono (ok' := fun k_ => True) ho0 (fun k_ hk_ => trivial)); replace HB := Aside0.mk (hb); clear HO_5; (try clear hb); (try clear hkp); (try clear ho0)))
             repeat (go_quiet (first | (go_at_call 94; (with_reducible refine (spec_l10Has.calls k2 ((rd_T57 l0 x7_2).f2) ((rdOf ByteArray.empty l1 x6_1).extract 0 13) true _ A15.out).mono ?_); rintro e w' ⟨rfl, ⟨nd, rfl⟩⟩; (try first | exact ⟨rfl, _, World.drewN_drewN _ _ _⟩ | exact ⟨rfl, _, Eq.trans (World.drewN_drewN _ _ _) (congrArg (World.drewN _) (Nat.add_assoc _ _ _))⟩); have p261 : 0 ≤ (x6_1 : Int) := dA_; have q261 : x6_1 < (l1.length : Int) := dA_; obtain ⟨ad261, e261, hx261_0⟩ := Kd.at_string HR1.out x6_1 p261 q261; obtain rfl : ad256 = ad261 := (by injection e261); replace hx261_0 := hX_ HB hx261_0; replace p261 := eq_true p261; replace q261 := eq_true q261; obtain ⟨Ao18, co18, eo18⟩ := Kd.R_slice HO_5.out; subst eo18) | (go_at_call 67; (with_reducible refine (spec_l3Add.calls k2 (fun k_ => some k_ = (.slice Ao18 x5_2.length co18 : Value).ownBlock) (.slice Ao18 x5_2.length co18) x5_2 (rdOf ByteArray.empty l1 x6_1) t262 w _ ?side1 ?side2 A17.out).mono ?_); (case side1 => repeat (first | (with_reducible first | exact HB.out | apply below_alloc | apply pw_below_drewN | apply below_drew1) | exact HB.out)); (case side2 => exact Kd.R_tight rfl HO_5.out); rintro e w19 ⟨v263, rfl, ho0, hb, hkp⟩; have HO264 := Aside0.mk (Kd.R_mono (ok' := fun k_ => True) ho0 (fun k_ hk_ => trivial)); replace HB := Aside0.mk (hb); clear HO_5; (try clear hb); (try clear hkp); (try clear ho0))); try go_wp2_with (first | (go_at_call 94; (with_reducible refine (spec_l10Has.calls k2 ((rd_T57 l0 x7_2).f2) ((rdOf ByteArray.empty l1 x6_1).extract 0 13) true _ A15.out).mono ?_); rintro e w' ⟨rfl, ⟨nd, rfl⟩⟩; (try first | exact ⟨rfl, _, World.drewN_drewN _ _ _⟩ | exact ⟨rfl, _, Eq.trans (World.drewN_drewN _ _ _) (congrArg (World.drewN _) (Nat.add_assoc _ _ _))⟩); have p261 : 0 ≤ (x6_1 : Int) := dA_; have q261 : x6_1 < (l1.length : Int) := dA_; obtain ⟨ad261, e261, hx261_0⟩ := Kd.at_string HR1.out x6_1 p261 q261; obtain rfl : ad256 = ad261 := (by injection e261); replace hx261_0 := hX_ HB hx261_0; replace p261 := eq_true p261; replace q261 := eq_true q261; obtain ⟨Ao18, co18, eo18⟩ := Kd.R_slice HO_5.out; subst eo18) | (go_at_call 67; (with_reducible refine (spec_l3Add.calls k2 (fun k_ => some k_ = (.slice Ao18 x5_2.length co18 : Value).ownBlock) (.slice Ao18 x5_2.length co18) x5_2 (rdOf ByteArray.empty l1 x6_1) t262 w _ ?side1 ?side2 A17.out).mono ?_); (case side1 => repeat (first | (with_reducible first | exact HB.out | apply below_alloc | apply pw_below_drewN | apply below_drew1) | exact HB.out)); (case side2 => exact Kd.R_tight rfl HO_5.out); rintro e w19 ⟨v263, rfl, ho0, hb, hkp⟩; have HO264 := Aside0.mk (Kd.R_mono (ok' := fun k_ => True) ho0 (fun k_ hk_ => trivial)); replace HB := Aside0.mk (hb); clear HO_5; (try clear hb); (try clear hkp); (try clear ho0))))
             go_roundg k2
             case measure => have := HK1.out; have := HK2.out; omega
             case rel => exact ⟨(t262), (wrap64 (x6_1 + 1)), (by first | rfl | (simp; done) | (simp [*]; done)), H', ⟨by have := HK1.out; have := HK2.out; omega⟩, ⟨kr_ HO264⟩, ⟨bw_ HB⟩⟩}
             {
             replace c16 := Bool.eq_false_iff.mpr c16
             subst c16
             rw [if_neg (show ¬ (false = true) by decide)] at H
             have H' := Aside0.mk H
             clear H
             have p258 : 0 ≤ (x7_2 : Int) := dA_
             have q258 : x7_2 < (l0.length : Int) := dA_
             obtain ⟨ad258, e258, hx258_0, hx258_1, hx258_2, hx258_3⟩ := at_T57 HR0.out x7_2 p258 q258
             cases e258
             replace hx258_0 := hX_ HB hx258_0
             replace hx258_1 := hX_ HB hx258_1
             replace hx258_2 := hX_ HB hx258_2
             replace hx258_3 := hX_ HB hx258_3
             replace p258 := eq_true p258
             replace q258 := eq_true q258
             have p259 : 0 ≤ (x6_1 : Int) := dA_
             have q259 : x6_1 < (l1.length : Int) := dA_
             obtain ⟨ad259, e259, hx259_0⟩ := Kd.at_string HR1.out x6_1 p259 q259
             obtain rfl : ad256 = ad259 := (by injection e259)
             replace hx259_0 := hX_ HB hx259_0
             replace p259 := eq_true p259
             replace q259 := eq_true q259
             go_wp2_with (first | (go_at_call 94; (with_reducible refine (spec_l10Has.calls k2 ((rd_T57 l0 x7_2).f2) ((rdOf ByteArray.empty l1 x6_1).extract 0 13) false _ A15.out).mono ?_); rintro e w' ⟨rfl, ⟨nd, rfl⟩⟩; (try first | exact ⟨rfl, _, World.drewN_drewN _ _ _⟩ | exact ⟨rfl, _, Eq.trans (World.drewN_drewN _ _ _) (congrArg (World.drewN _) (Nat.add_assoc _ _ _))⟩)))
             repeat (go_quiet (first | (go_at_call 94; (with_reducible refine (spec_l10Has.calls k2 ((rd_T57 l0 x7_2).f2) ((rdOf ByteArray.empty l1 x6_1).extract 0 13) false _ A15.out).mono ?_); rintro e w' ⟨rfl, ⟨nd, rfl⟩⟩; (try first | exact ⟨rfl, _, World.drewN_drewN _ _ _⟩ | exact ⟨rfl, _, Eq.trans (World.drewN_drewN _ _ _) (congrArg (World.drewN _) (Nat.add_assoc _ _ _))⟩))); try go_wp2_with (first | (go_at_call 94; (with_reducible refine (spec_l10Has.calls k2 ((rd_T57 l0 x7_2).f2) ((rdOf ByteArray.empty l1 x6_1).extract 0 13) false _ A15.out).mono ?_); rintro e w' ⟨rfl, ⟨nd, rfl⟩⟩; (try first | exact ⟨rfl, _, World.drewN_drewN _ _ _⟩ | exact ⟨rfl, _, Eq.trans (World.drewN_drewN _ _ _) (congrArg (World.drewN _) (Nat.add_assoc _ _ _))⟩))))
             go_roundg k2
             case measure => have := HK1.out; have := HK2.out; omega
             case rel => exact ⟨(x5_2), (wrap64 (x7_2 + 1)), (by first | rfl | (simp; done) | (simp [*]; done)), H', ⟨by have := HK1.out; have := HK2.out; omega⟩, ⟨kr_ HO_5⟩, ⟨bw_ HB⟩⟩}}
             {
             rw [if_neg c14] at H
             exact absurd H (by simp)}}
             {
             rw [if_neg c13] at H
             exact absurd H (by simp)}}
             {
             rw [if_neg c12] at H
             exact absurd H (by simp)}}
             {
             rw [if_neg c11] at H
             exact absurd H (by simp)}}
             {
             rw [if_neg c10] at H
             exact absurd H (by simp)}}
             {
             rw [if_neg c9] at H
             have c9b0 := decide_eq_false c9
             clear c9
             have H' := Aside0.mk H
             clear H
             go_wp2
             repeat (go_quiet (fail); try go_wp2)
             go_roundg k2
             case measure => have := HK1.out; have := HK2.out; omega
             case rel => exact ⟨(x5_2), (wrap64 (x6_1 + 1)), (by first | rfl | (simp; done) | (simp [*]; done)), H', ⟨by have := HK1.out; have := HK2.out; omega⟩, ⟨kr_ HO_5⟩, ⟨bw_ HB⟩⟩}}
       {
       replace c8 := Bool.eq_false_iff.mpr c8
       subst c8
       rw [if_neg (show ¬ (false = true) by decide)] at H
       have H' := Aside0.mk H
       clear H
       have p256 : 0 ≤ (x6_1 : Int) := dA_
       have q256 : x6_1 < (l1.length : Int) := dA_
       obtain ⟨ad256, e256, hx256_0⟩ := Kd.at_string HR1.out x6_1 p256 q256
       cases e256
       replace hx256_0 := hX_ HB hx256_0
       replace p256 := eq_true p256
       replace q256 := eq_true q256
       go_wp2_with (first | (go_at_call 43; (with_reducible refine (spec_AddressOk.calls k1 (rdOf ByteArray.empty l1 x6_1) false _ A7.out).mono ?_); rintro e w' ⟨rfl, ⟨nd, rfl⟩⟩; (try first | exact ⟨rfl, _, World.drewN_drewN _ _ _⟩ | exact ⟨rfl, _, Eq.trans (World.drewN_drewN _ _ _) (congrArg (World.drewN _) (Nat.add_assoc _ _ _))⟩)))
       repeat (go_quiet (first | (go_at_call 43; (with_reducible refine (spec_AddressOk.calls k1 (rdOf ByteArray.empty l1 x6_1) false _ A7.out).mono ?_); rintro e w' ⟨rfl, ⟨nd, rfl⟩⟩; (try first | exact ⟨rfl, _, World.drewN_drewN _ _ _⟩ | exact ⟨rfl, _, Eq.trans (World.drewN_drewN _ _ _) (congrArg (World.drewN _) (Nat.add_assoc _ _ _))⟩))); try go_wp2_with (first | (go_at_call 43; (with_reducible refine (spec_AddressOk.calls k1 (rdOf ByteArray.empty l1 x6_1) false _ A7.out).mono ?_); rintro e w' ⟨rfl, ⟨nd, rfl⟩⟩; (try first | exact ⟨rfl, _, World.drewN_drewN _ _ _⟩ | exact ⟨rfl, _, Eq.trans (World.drewN_drewN _ _ _) (congrArg (World.drewN _) (Nat.add_assoc _ _ _))⟩))))
       go_roundg k1
       case measure => have := HK1.out; omega
       case rel => exact ⟨(x5_1), (wrap64 (x6_1 + 1)), (by first | rfl | (simp; done) | (simp [*]; done)), H', ⟨by have := HK1.out; omega⟩, ⟨kr_ HO_5⟩, ⟨bw_ HB⟩⟩}}
       {
       rw [if_neg c6] at H
       exact absurd H (by simp)}}
       {
       rw [if_neg c5] at H
       have c5b0 := decide_eq_false c5
       clear c5
       obtain rfl := Option.some.inj H
       go_wp2
       repeat (go_quiet (fail); try go_wp2)
       go_ret
       exact ⟨_, eR_, kr_ HO_5, bw_ HB⟩
}
end Go.Proofs.YtikjbfjnbhaljaaGreatDoor.P
end
