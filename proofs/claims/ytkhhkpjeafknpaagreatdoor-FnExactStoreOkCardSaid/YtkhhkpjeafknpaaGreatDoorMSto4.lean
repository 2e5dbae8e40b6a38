/- Texts of Sto, put together by program. -/
import Derived.Test.YtkhhkpjeafknpaaGreatDoorMSto2
import Derived.Test.YtkhhkpjeafknpaaGreatDoorMSto3

section
namespace Go.Proofs.YtkhhkpjeafknpaaGreatDoor.P
open Go.RowKit Go.Proofs.YtkhhkpjeafknpaaGreatDoorW.PrintWords Go.Proofs.YtkhhkpjeafknpaaGreatDoorW.PrintLast Go.Proofs.YtkhhkpjeafknpaaGreatDoorW.PrintMore Go.Proofs.YtkhhkpjeafknpaaGreatDoorM
attribute [local go_sem] max2_int min2_int max_two min_two max_three min_three max_four min_four
set_option linter.unusedVariables false
set_option linter.unusedSimpArgs false
mutual
def spec_TreeOk.l0 : Nat → List (S70) → Int → Option (Bool)
 | 0, _, _ => none
 | k + 1, x0, x3 => if x3 < (x0.length : Int) then (if 0 ≤ x3 then ((spec_l10EntryOk.f k ((rd_T70 x0 x3).f0) ((rd_T70 x0 x3).f1) ((rd_T70 x0 x3).f2) ((rd_T70 x0 x3).f3)).bind fun t140 => (if t140 = true then (if x3 > 0 then (if 0 ≤ (wrap64 (x3 - 1)) then (if (wrap64 (x3 - 1)) < (x0.length : Int) then (spec_TreeOk.j1 k x0 x3 (!(Op.bytesLess (((rd_T70 x0 (wrap64 (x3 - 1))).f0).toList) (((rd_T70 x0 x3).f0).toList)))) else (none)) else (none)) else (spec_TreeOk.j1 k x0 x3 false)) else (spec_TreeOk.j1 k x0 x3 true))) else (none)) else (some true)
def spec_TreeOk.j1 : Nat → List (S70) → Int → Bool → Option (Bool)
 | 0, _, _, _ => none
 | k + 1, x0, x3, x37 => if x37 = true then (some false) else (if 0 ≤ x3 then (if x3 < (x0.length : Int) then ((spec_l10Up.f k ((rd_T70 x0 x3).f0)).bind fun t144 => (if t144.toList = ([] : List UInt8) then (spec_TreeOk.l0 k x0 (wrap64 (x3 + 1))) else (if x3 ≤ (x0.length : Int) then ((spec_l10Dir.f k (x0.take (x3 : Int).toNat) t144).bind fun t149 => (if t149 = true then (spec_TreeOk.l0 k x0 (wrap64 (x3 + 1))) else (some false))) else (none)))) else (none)) else (none))
end
def spec_TreeOk.f (k : Nat) (l0 : List (S70)) : Option (Bool) := if (l0.length : Int) > 500 then (some false) else (spec_TreeOk.l0 k l0 0)
def spec_TreeOk.T6 : Bool × List (List Nat × List Nat) := (true, [([], []), ([], []), ([0, 1], [0, 1]), ([2], [2]), ([3], [3]), ([4], [4]), ([5, 4], [5]), ([6], [6]), ([7, 6], [6, 7]), ([8, 6, 6], [6, 8]), ([9], [9]), ([9], [9]), ([11, 9], [9, 11]), ([10, 12, 9], [9, 10, 12]), ([13, 9], [9, 13]), ([14, 9], [9, 14]), ([9], [9]), ([9], [9]), ([16, 17, 9], [9, 16, 17]), ([18, 9], [9, 18]), ([19, 9], [9, 19]), ([15, 20, 9], [9, 15, 20]), ([9, 21, 6], [6, 9, 21]), ([6, 22], [6, 22])])
def spec_TreeOk.B6 : List Nat := [0, 0, 3, 7, 15, 31, 63, 127, 255, 511, 1023, 1023, 3071, 8191, 16383, 32767, 1023, 1023, 197631, 459775, 984063, 2097151, 4194303, 8388607]
theorem spec_TreeOk.tab6 : rtab .any (opsOf Tryz.f44 6) = spec_TreeOk.T6 := by kernel_rfl
theorem spec_TreeOk.bits6 : waitsOk spec_TreeOk.T6.2 spec_TreeOk.B6 = true := by kernel_rfl
set_option maxHeartbeats 8000000 in
set_option maxRecDepth 100000 in
theorem spec_TreeOk.calls (k : Nat) (A0 : Option Addr) (c0 : Nat) (l0 : List (S70)) (r : Bool) (w : World) (hr0 : Kd.C k70 w A0 l0.length l0) (hc0 : l0.length ≤ c0) (h : spec_TreeOk.f k l0 = some r) :
 Calls Tryz.prog 44 #[.slice A0 l0.length c0] w fun e w' => e = .returned (.bool r) ∧ Below w.heap.size w w' := by
 have hu70 := Tryz.underlying70
 have HR0 := Aside0.mk hr0
 have HC0 := Aside0.mk hc0
 clear hr0 hc0
 have HB := Aside0.mk (Below.refl w.heap.size w)
 have H : (if (l0.length : Int) > 500 then (some false) else (spec_TreeOk.l0 k l0 0)) = some r := h
 clear h
 by_cases c2 : (l0.length : Int) > 500
 {
 rw [if_pos c2] at H
 have c2b0 : decide (500 < (l0.length : Int)) = true := decide_eq_true c2
 have c2b1 : decide (500 < l0.length) = true := decide_eq_true (by omega)
 clear c2
 obtain rfl := Option.some.inj H
 go_enter Tryz.func44, Tryz.ntmps44
 go_wp2
 go_ret
 exact ⟨eR_, bw_ HB⟩}
 {
 rw [if_neg c2] at H
 have c2b0 : decide (500 < (l0.length : Int)) = false := decide_eq_false c2
 have c2b1 : decide (500 < l0.length) = false := decide_eq_false (by omega)
 clear c2
 have H' := Aside0.mk H
 clear H
 go_enter Tryz.func44, Tryz.ntmps44
 go_wp2
 go_loopg [3] k (fun kq v3 w' => ∃ (x3_1 : Int), v3 = .int .i64 x3_1 ∧ Aside0 (spec_TreeOk.l0 kq l0 x3_1 = some r) ∧ Aside0 (kq ≤ k) ∧ Aside0 (Below w.heap.size w w'))
 case atStart => exact ⟨(0), (by first | rfl | (simp; done) | (simp [*]; done)), H', ⟨Nat.le_refl _⟩, ⟨bw_ HB⟩⟩
 case round =>
  clear H'
  try clear c2
  try clear c2b0
  try clear c2b1
  try clear p2
  obtain ⟨x3_1, rfl, HA, HK1, HB⟩ := hrel
  cases gk with
  | zero => exact absurd HA.out (by simp [spec_TreeOk.l0])
  | succ k1 =>
   have H := HA.out
   clear HA
   simp only [spec_TreeOk.l0] at H
   by_cases c3 : x3_1 < (l0.length : Int)
   {
   rw [if_pos c3] at H
   have c3b0 : decide (x3_1 < (l0.length : Int)) = true := decide_eq_true c3
   clear c3
   have HC4 := Aside0.mk H
   clear H
   go_upto_region 6 with (fail)
   go_cut [37] (fun v37 wc => ∃ (kq : Nat) (x37_3 : Bool), v37 = .bool x37_3 ∧ Aside0 (spec_TreeOk.j1 kq l0 x3_1 x37_3 = some r) ∧ Aside0 (kq ≤ k1) ∧ Aside0 (Below w.heap.size w wc))
   case first =>
    have H := HC4.out
    clear HC4
    by_cases c5 : 0 ≤ x3_1
    {
    rw [if_pos c5] at H
    have c5b0 : decide (0 ≤ x3_1) = true := decide_eq_true c5
    clear c5
    (first | rw [c5b0] | (simp only [i64_w, i32_w]; rw [c5b0]) | skip)
    replace H := Option.bind_eq_some_iff.mp H
    obtain ⟨t140, A60, H⟩ := H
    have A6 := Aside0.mk A60
    clear A60
    by_cases c7 : t140 = true
    {
    subst c7
    rw [if_pos rfl] at H
    by_cases c8 : x3_1 > 0
    {
    rw [if_pos c8] at H
    have c8b0 : decide (0 < x3_1) = true := decide_eq_true c8
    clear c8
    obtain ⟨ji9, hji9⟩ : ∃ j_ : Int, (wrap64 (x3_1 - 1)) = j_ := ⟨_, rfl⟩
    replace H : (if 0 ≤ (ji9) then (if (ji9) < (l0.length : Int) then (spec_TreeOk.j1 k1 l0 x3_1 (!(Op.bytesLess (((rd_T70 l0 (ji9)).f0).toList) (((rd_T70 l0 x3_1).f0).toList)))) else (none)) else (none)) = some r := by first | (rw [hji9] at H; exact H) | (simp only [hji9] at H ⊢; exact H)
    (try rw [hji9] at A6)
    have hji9w : (IntKind.i64.wrap (x3_1 - 1)) = ji9 := (i64_w _).trans hji9
    by_cases c10 : 0 ≤ (ji9)
    {
    rw [if_pos c10] at H
    have c10b0 : decide (0 ≤ (ji9)) = true := decide_eq_true c10
    clear c10
    by_cases c11 : (ji9) < (l0.length : Int)
    {
    rw [if_pos c11] at H
    have c11b0 : decide ((ji9) < (l0.length : Int)) = true := decide_eq_true c11
    clear c11
    have H' := Aside0.mk H
    clear H
    try go_wp2
    have n0_ := Aside0.mk (below_drew1 HB.out)
    clear HB
    have HB := n0_
    clear n0_
    have p139 : 0 ≤ (x3_1 : Int) := dA_
    have q139 : x3_1 < (l0.length : Int) := dA_
    obtain ⟨ad139, e139, hx139_0, hx139_1, hx139_2, hx139_3⟩ := at_T70 HR0.out x3_1 p139 q139
    have hw139_3 := hx139_3
    have hw139_2 := hx139_2
    have hw139_1 := hx139_1
    have hw139_0 := hx139_0
    cases e139
    replace hx139_0 := hX_ HB hx139_0
    replace hx139_1 := hX_ HB hx139_1
    replace hx139_2 := hX_ HB hx139_2
    replace hx139_3 := hX_ HB hx139_3
    replace p139 := eq_true p139
    replace q139 := eq_true q139
    have p141 : 0 ≤ ((ji9) : Int) := dA_
    have q141 : (ji9) < (l0.length : Int) := dA_
    obtain ⟨ad141, e141, hx141_0, hx141_1, hx141_2, hx141_3⟩ := at_T70 HR0.out (ji9) p141 q141
    have hw141_3 := hx141_3
    have hw141_2 := hx141_2
    have hw141_1 := hx141_1
    have hw141_0 := hx141_0
    obtain rfl : ad139 = ad141 := (by injection e141)
    replace hx141_0 := hX_ HB hx141_0
    replace hx141_1 := hX_ HB hx141_1
    replace hx141_2 := hX_ HB hx141_2
    replace hx141_3 := hX_ HB hx141_3
    replace p141 := eq_true p141
    replace q141 := eq_true q141
    have p142 : 0 ≤ (x3_1 : Int) := dA_
    have q142 : x3_1 < (l0.length : Int) := dA_
    obtain ⟨ad142, e142, hx142_0, hx142_1, hx142_2, hx142_3⟩ := at_T70 HR0.out x3_1 p142 q142
    have hw142_3 := hx142_3
    have hw142_2 := hx142_2
    have hw142_1 := hx142_1
    have hw142_0 := hx142_0
    obtain rfl : ad139 = ad142 := (by injection e142)
    replace hx142_0 := hX_ HB hx142_0
    replace hx142_1 := hX_ HB hx142_1
    replace hx142_2 := hX_ HB hx142_2
    replace hx142_3 := hX_ HB hx142_3
    replace p142 := eq_true p142
    replace q142 := eq_true q142
    refine start_ (n := 24) (S := fun w' => w'.cell? (ad139.add ((x3_1).toNat * 4)) = some (.string ((rd_T70 l0 x3_1).f0)) ∧ w'.cell? ⟨(ad139.add ((x3_1).toNat * 4)).block, (ad139.add ((x3_1).toNat * 4)).off + 1, none⟩ = some (.int .i64 ((rd_T70 l0 x3_1).f1)) ∧ w'.cell? ⟨(ad139.add ((x3_1).toNat * 4)).block, (ad139.add ((x3_1).toNat * 4)).off + 2, none⟩ = some (.string ((rd_T70 l0 x3_1).f2)) ∧ w'.cell? ⟨(ad139.add ((x3_1).toNat * 4)).block, (ad139.add ((x3_1).toNat * 4)).off + 3, none⟩ = some (.bool ((rd_T70 l0 x3_1).f3)) ∧ w'.cell? (ad139.add (((ji9)).toNat * 4)) = some (.string ((rd_T70 l0 (ji9)).f0)) ∧ w'.cell? ⟨(ad139.add (((ji9)).toNat * 4)).block, (ad139.add (((ji9)).toNat * 4)).off + 1, none⟩ = some (.int .i64 ((rd_T70 l0 (ji9)).f1)) ∧ w'.cell? ⟨(ad139.add (((ji9)).toNat * 4)).block, (ad139.add (((ji9)).toNat * 4)).off + 2, none⟩ = some (.string ((rd_T70 l0 (ji9)).f2)) ∧ w'.cell? ⟨(ad139.add (((ji9)).toNat * 4)).block, (ad139.add (((ji9)).toNat * 4)).off + 3, none⟩ = some (.bool ((rd_T70 l0 (ji9)).f3)) ∧ w'.cell? (ad139.add ((x3_1).toNat * 4)) = some (.string ((rd_T70 l0 x3_1).f0)) ∧ w'.cell? ⟨(ad139.add ((x3_1).toNat * 4)).block, (ad139.add ((x3_1).toNat * 4)).off + 1, none⟩ = some (.int .i64 ((rd_T70 l0 x3_1).f1)) ∧ w'.cell? ⟨(ad139.add ((x3_1).toNat * 4)).block, (ad139.add ((x3_1).toNat * 4)).off + 2, none⟩ = some (.string ((rd_T70 l0 x3_1).f2)) ∧ w'.cell? ⟨(ad139.add ((x3_1).toNat * 4)).block, (ad139.add ((x3_1).toNat * 4)).off + 3, none⟩ = some (.bool ((rd_T70 l0 x3_1).f3))) (ds := []) (bs_ 24 0) (by kernel_rfl) rfl (by kernel_rfl) ⟨((HB.out.cell (World.block_lt_of_cell? w _ hw139_0)).trans hw139_0), ((HB.out.cell (World.block_lt_of_cell? w _ hw139_1)).trans hw139_1), ((HB.out.cell (World.block_lt_of_cell? w _ hw139_2)).trans hw139_2), ((HB.out.cell (World.block_lt_of_cell? w _ hw139_3)).trans hw139_3), ((HB.out.cell (World.block_lt_of_cell? w _ hw141_0)).trans hw141_0), ((HB.out.cell (World.block_lt_of_cell? w _ hw141_1)).trans hw141_1), ((HB.out.cell (World.block_lt_of_cell? w _ hw141_2)).trans hw141_2), ((HB.out.cell (World.block_lt_of_cell? w _ hw141_3)).trans hw141_3), ((HB.out.cell (World.block_lt_of_cell? w _ hw142_0)).trans hw142_0), ((HB.out.cell (World.block_lt_of_cell? w _ hw142_1)).trans hw142_1), ((HB.out.cell (World.block_lt_of_cell? w _ hw142_2)).trans hw142_2), ((HB.out.cell (World.block_lt_of_cell? w _ hw142_3)).trans hw142_3)⟩ (fun hHeld => ?_); refine with_tabW spec_TreeOk.tab6 spec_TreeOk.bits6 (fun HT_ HW_ => ?_)
    generalize wr.drew = w12 at HB hx139_0 hx139_1 hx139_2 hx139_3 hx141_0 hx141_1 hx141_2 hx141_3 hx142_0 hx142_1 hx142_2 hx142_3 hHeld ⊢
    refine pS_ 0 ?_
    refine pS_ 1 ?_
    refine pS_ 2 ?_
    refine t12_ 3 hHeld ?_
    refine oS_ 4 (fun K hK => ?_)
    refine gS_ Tryz.func69 #[.agg #[.string ((rd_T70 l0 x3_1).f0), .int .i64 ((rd_T70 l0 x3_1).f1), .string ((rd_T70 l0 x3_1).f2), .bool ((rd_T70 l0 x3_1).f3)]] ?_
    with_reducible refine (spec_l10EntryOk.calls k1 ((rd_T70 l0 x3_1).f0) ((rd_T70 l0 x3_1).f1) ((rd_T70 l0 x3_1).f2) ((rd_T70 l0 x3_1).f3) true _ A6.out).mono ?_
    rintro e w13 ⟨rfl, hb⟩
    refine ⟨_, rfl, ?_⟩
    have n0_ := Aside0.mk (below_step (bw_ HB) hb)
    clear HB
    have HB := n0_
    clear n0_
    (try clear hb)
    (try clear hb2)
    (try clear hk)
    (try clear hi)
    refine hK.out _ _ ⟨((HB.out.cell (World.block_lt_of_cell? w _ hw139_0)).trans hw139_0), ((HB.out.cell (World.block_lt_of_cell? w _ hw139_1)).trans hw139_1), ((HB.out.cell (World.block_lt_of_cell? w _ hw139_2)).trans hw139_2), ((HB.out.cell (World.block_lt_of_cell? w _ hw139_3)).trans hw139_3), ((HB.out.cell (World.block_lt_of_cell? w _ hw141_0)).trans hw141_0), ((HB.out.cell (World.block_lt_of_cell? w _ hw141_1)).trans hw141_1), ((HB.out.cell (World.block_lt_of_cell? w _ hw141_2)).trans hw141_2), ((HB.out.cell (World.block_lt_of_cell? w _ hw141_3)).trans hw141_3), ((HB.out.cell (World.block_lt_of_cell? w _ hw142_0)).trans hw142_0), ((HB.out.cell (World.block_lt_of_cell? w _ hw142_1)).trans hw142_1), ((HB.out.cell (World.block_lt_of_cell? w _ hw142_2)).trans hw142_2), ((HB.out.cell (World.block_lt_of_cell? w _ hw142_3)).trans hw142_3)⟩ (fun hHeld => ?_)
    clear hK K
    refine nS_ 18 ?_
    refine pS_ 5 ?_
    refine pS_ 6 ?_
    refine pS_ 7 ?_
    refine pS_ 8 ?_
    refine pS_ 9 ?_
    refine pS_ 10 ?_
    refine pS_ 11 ?_
    refine pS_ 12 ?_
    refine pS_ 13 ?_
    refine pS_ 14 ?_
    refine pS_ 16 ?_
    refine pS_ 17 ?_
    refine pS_ 18 ?_
    refine pS_ 19 ?_
    refine t12_ 15 hHeld ?_
    refine t12_ 20 hHeld ?_
    refine pS_ 21 ?_
    refine pS_ 22 ?_
    refine pS_ 23 ?_
    refine done_ (done_of HT_.out (by kernel_rfl)) ?_
    try go_wp2
    go_meet
    case rel => exact ⟨_, (!(Op.bytesLess (((rd_T70 l0 (ji9)).f0).toList) (((rd_T70 l0 x3_1).f0).toList))), (by first | rfl | (simp; done) | (simp only [← hji9] <;> (first | rfl | simp)) | (simp [*]; done)), H', ⟨by have := HK1.out; first | omega | exact Nat.le_refl _⟩, ⟨bw_ HB⟩⟩}
    {
    rw [if_neg c11] at H
    exact absurd H (by simp)}}
    {
    rw [if_neg c10] at H
    exact absurd H (by simp)}}
    {
    rw [if_neg c8] at H
    have c8b0 : decide (0 < x3_1) = false := decide_eq_false c8
    clear c8
    have H' := Aside0.mk H
    clear H
    try go_wp2
    have n0_ := Aside0.mk (below_drew1 HB.out)
    clear HB
    have HB := n0_
    clear n0_
    have p139 : 0 ≤ (x3_1 : Int) := dA_
    have q139 : x3_1 < (l0.length : Int) := dA_
    obtain ⟨ad139, e139, hx139_0, hx139_1, hx139_2, hx139_3⟩ := at_T70 HR0.out x3_1 p139 q139
    have hw139_3 := hx139_3
    have hw139_2 := hx139_2
    have hw139_1 := hx139_1
    have hw139_0 := hx139_0
    cases e139
    replace hx139_0 := hX_ HB hx139_0
    replace hx139_1 := hX_ HB hx139_1
    replace hx139_2 := hX_ HB hx139_2
    replace hx139_3 := hX_ HB hx139_3
    replace p139 := eq_true p139
    replace q139 := eq_true q139
    refine start_ (n := 24) (S := fun w' => w'.cell? (ad139.add ((x3_1).toNat * 4)) = some (.string ((rd_T70 l0 x3_1).f0)) ∧ w'.cell? ⟨(ad139.add ((x3_1).toNat * 4)).block, (ad139.add ((x3_1).toNat * 4)).off + 1, none⟩ = some (.int .i64 ((rd_T70 l0 x3_1).f1)) ∧ w'.cell? ⟨(ad139.add ((x3_1).toNat * 4)).block, (ad139.add ((x3_1).toNat * 4)).off + 2, none⟩ = some (.string ((rd_T70 l0 x3_1).f2)) ∧ w'.cell? ⟨(ad139.add ((x3_1).toNat * 4)).block, (ad139.add ((x3_1).toNat * 4)).off + 3, none⟩ = some (.bool ((rd_T70 l0 x3_1).f3))) (ds := []) (bs_ 24 0) (by kernel_rfl) rfl (by kernel_rfl) ⟨((HB.out.cell (World.block_lt_of_cell? w _ hw139_0)).trans hw139_0), ((HB.out.cell (World.block_lt_of_cell? w _ hw139_1)).trans hw139_1), ((HB.out.cell (World.block_lt_of_cell? w _ hw139_2)).trans hw139_2), ((HB.out.cell (World.block_lt_of_cell? w _ hw139_3)).trans hw139_3)⟩ (fun hHeld => ?_); refine with_tabW spec_TreeOk.tab6 spec_TreeOk.bits6 (fun HT_ HW_ => ?_)
    generalize wr.drew = w14 at HB hx139_0 hx139_1 hx139_2 hx139_3 hHeld ⊢
    refine pS_ 0 ?_
    refine pS_ 1 ?_
    refine pS_ 2 ?_
    refine t4_ 3 hHeld ?_
    refine oS_ 4 (fun K hK => ?_)
    refine gS_ Tryz.func69 #[.agg #[.string ((rd_T70 l0 x3_1).f0), .int .i64 ((rd_T70 l0 x3_1).f1), .string ((rd_T70 l0 x3_1).f2), .bool ((rd_T70 l0 x3_1).f3)]] ?_
    with_reducible refine (spec_l10EntryOk.calls k1 ((rd_T70 l0 x3_1).f0) ((rd_T70 l0 x3_1).f1) ((rd_T70 l0 x3_1).f2) ((rd_T70 l0 x3_1).f3) true _ A6.out).mono ?_
    rintro e w15 ⟨rfl, hb⟩
    refine ⟨_, rfl, ?_⟩
    have n0_ := Aside0.mk (below_step (bw_ HB) hb)
    clear HB
    have HB := n0_
    clear n0_
    (try clear hb)
    (try clear hb2)
    (try clear hk)
    (try clear hi)
    refine hK.out _ _ ⟨((HB.out.cell (World.block_lt_of_cell? w _ hw139_0)).trans hw139_0), ((HB.out.cell (World.block_lt_of_cell? w _ hw139_1)).trans hw139_1), ((HB.out.cell (World.block_lt_of_cell? w _ hw139_2)).trans hw139_2), ((HB.out.cell (World.block_lt_of_cell? w _ hw139_3)).trans hw139_3)⟩ (fun hHeld => ?_)
    clear hK K
    refine nS_ 18 ?_
    refine pS_ 5 ?_
    refine pS_ 6 ?_
    refine pS_ 7 ?_
    refine pS_ 8 ?_
    refine pS_ 9 ?_
    refine pU_ 10 ?_
    refine pU_ 11 ?_
    refine pU_ 12 ?_
    refine pU_ 13 ?_
    refine pU_ 14 ?_
    refine pU_ 15 ?_
    refine pU_ 16 ?_
    refine pU_ 17 ?_
    refine pU_ 18 ?_
    refine pU_ 19 ?_
    refine pU_ 20 ?_
    refine pU_ 21 ?_
    refine pS_ 22 ?_
    refine pS_ 23 ?_
    refine done_ (done_of HT_.out (by kernel_rfl)) ?_
    try go_wp2
    go_meet
    case rel => exact ⟨_, (false), (by first | rfl | (simp; done) | (simp [*]; done)), H', ⟨by have := HK1.out; first | omega | exact Nat.le_refl _⟩, ⟨bw_ HB⟩⟩}}
    {
    replace c7 := Bool.eq_false_iff.mpr c7
    subst c7
    rw [if_neg (show ¬ (false = true) by decide)] at H
    have H' := Aside0.mk H
    clear H
    try go_wp2
    have n0_ := Aside0.mk (below_drew1 HB.out)
    clear HB
    have HB := n0_
    clear n0_
    have p139 : 0 ≤ (x3_1 : Int) := dA_
    have q139 : x3_1 < (l0.length : Int) := dA_
    obtain ⟨ad139, e139, hx139_0, hx139_1, hx139_2, hx139_3⟩ := at_T70 HR0.out x3_1 p139 q139
    have hw139_3 := hx139_3
    have hw139_2 := hx139_2
    have hw139_1 := hx139_1
    have hw139_0 := hx139_0
    cases e139
    replace hx139_0 := hX_ HB hx139_0
    replace hx139_1 := hX_ HB hx139_1
    replace hx139_2 := hX_ HB hx139_2
    replace hx139_3 := hX_ HB hx139_3
    replace p139 := eq_true p139
    replace q139 := eq_true q139
    refine start_ (n := 24) (S := fun w' => w'.cell? (ad139.add ((x3_1).toNat * 4)) = some (.string ((rd_T70 l0 x3_1).f0)) ∧ w'.cell? ⟨(ad139.add ((x3_1).toNat * 4)).block, (ad139.add ((x3_1).toNat * 4)).off + 1, none⟩ = some (.int .i64 ((rd_T70 l0 x3_1).f1)) ∧ w'.cell? ⟨(ad139.add ((x3_1).toNat * 4)).block, (ad139.add ((x3_1).toNat * 4)).off + 2, none⟩ = some (.string ((rd_T70 l0 x3_1).f2)) ∧ w'.cell? ⟨(ad139.add ((x3_1).toNat * 4)).block, (ad139.add ((x3_1).toNat * 4)).off + 3, none⟩ = some (.bool ((rd_T70 l0 x3_1).f3))) (ds := []) (bs_ 24 0) (by kernel_rfl) rfl (by kernel_rfl) ⟨((HB.out.cell (World.block_lt_of_cell? w _ hw139_0)).trans hw139_0), ((HB.out.cell (World.block_lt_of_cell? w _ hw139_1)).trans hw139_1), ((HB.out.cell (World.block_lt_of_cell? w _ hw139_2)).trans hw139_2), ((HB.out.cell (World.block_lt_of_cell? w _ hw139_3)).trans hw139_3)⟩ (fun hHeld => ?_); refine with_tabW spec_TreeOk.tab6 spec_TreeOk.bits6 (fun HT_ HW_ => ?_)
    generalize wr.drew = w16 at HB hx139_0 hx139_1 hx139_2 hx139_3 hHeld ⊢
    refine pS_ 0 ?_
    refine pS_ 1 ?_
    refine pS_ 2 ?_
    refine t4_ 3 hHeld ?_
    refine oS_ 4 (fun K hK => ?_)
    refine gS_ Tryz.func69 #[.agg #[.string ((rd_T70 l0 x3_1).f0), .int .i64 ((rd_T70 l0 x3_1).f1), .string ((rd_T70 l0 x3_1).f2), .bool ((rd_T70 l0 x3_1).f3)]] ?_
    with_reducible refine (spec_l10EntryOk.calls k1 ((rd_T70 l0 x3_1).f0) ((rd_T70 l0 x3_1).f1) ((rd_T70 l0 x3_1).f2) ((rd_T70 l0 x3_1).f3) false _ A6.out).mono ?_
    rintro e w17 ⟨rfl, hb⟩
    refine ⟨_, rfl, ?_⟩
    have n0_ := Aside0.mk (below_step (bw_ HB) hb)
    clear HB
    have HB := n0_
    clear n0_
    (try clear hb)
    (try clear hb2)
    (try clear hk)
    (try clear hi)
    refine hK.out _ _ ⟨((HB.out.cell (World.block_lt_of_cell? w _ hw139_0)).trans hw139_0), ((HB.out.cell (World.block_lt_of_cell? w _ hw139_1)).trans hw139_1), ((HB.out.cell (World.block_lt_of_cell? w _ hw139_2)).trans hw139_2), ((HB.out.cell (World.block_lt_of_cell? w _ hw139_3)).trans hw139_3)⟩ (fun hHeld => ?_)
    clear hK K
    refine nS_ 18 ?_
    refine pS_ 5 ?_
    refine pS_ 6 ?_
    refine pU_ 7 ?_
    refine pU_ 8 ?_
    refine pU_ 9 ?_
    refine pU_ 10 ?_
    refine pU_ 11 ?_
    refine pU_ 12 ?_
    refine pU_ 13 ?_
    refine pU_ 14 ?_
    refine pU_ 15 ?_
    refine pU_ 16 ?_
    refine pU_ 17 ?_
    refine pU_ 18 ?_
    refine pU_ 19 ?_
    refine pU_ 20 ?_
    refine pU_ 21 ?_
    refine pU_ 22 ?_
    refine pS_ 23 ?_
    refine done_ (done_of HT_.out (by kernel_rfl)) ?_
    try go_wp2
    go_meet
    case rel => exact ⟨_, (true), (by first | rfl | (simp; done) | (simp [*]; done)), H', ⟨by have := HK1.out; first | omega | exact Nat.le_refl _⟩, ⟨bw_ HB⟩⟩}}
    {
    rw [if_neg c5] at H
    exact absurd H (by simp)}
   case rest =>
    clear HC4
    try clear c1
    try clear p1
    try clear q1
    try clear hx1
    try clear p2
    try clear c5
    try clear c6
    try clear c7
    try clear c8
    try clear c8b0
    try clear c10
    try clear c11
    try clear p13
    try clear q13
    try clear hx13
    try clear p14
    try clear q14
    try clear hx14
    try clear hx139_0
    try clear hx139_1
    try clear hx139_2
    try clear hx139_3
    try clear hx141_0
    try clear hx141_1
    try clear hx141_2
    try clear hx141_3
    try clear hx142_0
    try clear hx142_1
    try clear hx142_2
    try clear hx142_3
    try clear p139
    try clear p141
    try clear p142
    try clear q139
    try clear q141
    try clear q142
    obtain ⟨kq, x37_3, rfl, HA, HJ3, HB⟩ := hcut
    cases kq with
    | zero => exact absurd HA.out (by simp [spec_TreeOk.j1])
    | succ kj3 =>
     have H := HA.out
     clear HA
     simp only [spec_TreeOk.j1] at H
     by_cases c18 : x37_3 = true
     {
     subst c18
     rw [if_pos rfl] at H
     obtain rfl := Option.some.inj H
     go_wp2
     go_ret
     exact ⟨eR_, bw_ HB⟩}
     {
     replace c18 := Bool.eq_false_iff.mpr c18
     subst c18
     rw [if_neg (show ¬ (false = true) by decide)] at H
     by_cases c19 : 0 ≤ x3_1
     {
     rw [if_pos c19] at H
     have c19b0 : decide (0 ≤ x3_1) = true := decide_eq_true c19
     clear c19
     by_cases c20 : x3_1 < (l0.length : Int)
     {
     rw [if_pos c20] at H
     have c20b0 : decide (x3_1 < (l0.length : Int)) = true := decide_eq_true c20
     clear c20
     replace H := Option.bind_eq_some_iff.mp H
     obtain ⟨t144, A210, H⟩ := H
     have A21 := Aside0.mk A210
     clear A210
     by_cases c22 : t144.toList = ([] : List UInt8)
     {
     rw [if_pos c22] at H
     have c22b0 : (t144.toList == ([] : List UInt8)) = true := beq_iff_eq.mpr c22
     have c22b1 : (t144.toList != ([] : List UInt8)) = false := bne_eq_false_iff_eq.mpr c22
     clear c22
     have H' := Aside0.mk H
     clear H
     have p143 : 0 ≤ (x3_1 : Int) := dA_
     have q143 : x3_1 < (l0.length : Int) := dA_
     obtain ⟨ad143, e143, hx143_0, hx143_1, hx143_2, hx143_3⟩ := at_T70 HR0.out x3_1 p143 q143
     cases e143
     replace hx143_0 := hX_ HB hx143_0
     replace hx143_1 := hX_ HB hx143_1
     replace hx143_2 := hX_ HB hx143_2
     replace hx143_3 := hX_ HB hx143_3
     replace p143 := eq_true p143
     replace q143 := eq_true q143
     go_wp2_with (first | ((with_reducible refine gate_callee (f := 70) rfl ?_); refine gL_ (some 43) Tryz.func70 #[.string ((rd_T70 l0 x3_1).f0)] ?_; (with_reducible refine (spec_l10Up.calls kj3 ((rd_T70 l0 x3_1).f0) t144 _ A21.out).mono ?_); rintro e w' ⟨rfl, ⟨nd, rfl⟩⟩; refine ⟨_, rfl, ?_⟩))
     go_roundg kj3
     case measure => have := HK1.out; have := HJ3.out; omega
     case rel => exact ⟨(wrap64 (x3_1 + 1)), (by first | rfl | (simp; done) | (simp [*]; done)), H', ⟨by have := HK1.out; have := HJ3.out; omega⟩, ⟨bw_ HB⟩⟩}
     {
     rw [if_neg c22] at H
     have c22b0 : (t144.toList == ([] : List UInt8)) = false := beq_eq_false_iff_ne.mpr c22
     have c22b1 : (t144.toList != ([] : List UInt8)) = true := bne_iff_ne.mpr c22
     have c23b0 := eq_true (dA_ : 0 ≤ x3_1)
     by_cases c24 : x3_1 ≤ (l0.length : Int)
     {
     rw [if_pos c24] at H
     have c24b0 := eq_true c24
     have c24b1 : decide (x3_1 ≤ (l0.length : Int)) = true := decide_eq_true c24
     clear c24
     obtain ⟨y145, hy145⟩ : ∃ y_ : List (S70), y_ = (l0.take (x3_1 : Int).toNat) := ⟨_, rfl⟩
     replace H : ((spec_l10Dir.f kj3 y145 t144).bind fun t149 => (if t149 = true then (spec_TreeOk.l0 kj3 l0 (wrap64 (x3_1 + 1))) else (some false))) = some r := by first | (rw [hy145]; with_reducible exact H) | (have H2_ := (Option.bind_some _ _).symm.trans H; rw [hy145]; with_reducible exact H2_) | (have H2_ := (Option.bind_some _ _).symm.trans H; with_reducible exact H2_) | with_reducible exact H | (rw [hy145]; exact H) | exact H
     have Ny145 := Aside0.mk hy145
     clear hy145
     replace H := Option.bind_eq_some_iff.mp H
     obtain ⟨t149, A250, H⟩ := H
     have A25 := Aside0.mk A250
     clear A250
     by_cases c26 : t149 = true
     {
     subst c26
     rw [if_pos rfl] at H
     have H' := Aside0.mk H
     clear H
     have p143 : 0 ≤ (x3_1 : Int) := dA_
     have q143 : x3_1 < (l0.length : Int) := dA_
     obtain ⟨ad143, e143, hx143_0, hx143_1, hx143_2, hx143_3⟩ := at_T70 HR0.out x3_1 p143 q143
     cases e143
     replace hx143_0 := hX_ HB hx143_0
     replace hx143_1 := hX_ HB hx143_1
     replace hx143_2 := hX_ HB hx143_2
     replace hx143_3 := hX_ HB hx143_3
     replace p143 := eq_true p143
     replace q143 := eq_true q143
     go_wp2_with (first | ((with_reducible refine gate_callee (f := 70) rfl ?_); refine gL_ (some 43) Tryz.func70 #[.string ((rd_T70 l0 x3_1).f0)] ?_; (with_reducible refine (spec_l10Up.calls kj3 ((rd_T70 l0 x3_1).f0) t144 _ A21.out).mono ?_); rintro e w' ⟨rfl, ⟨nd, rfl⟩⟩; refine ⟨_, rfl, ?_⟩; have q27 : (x3_1 : Int) ≤ ((l0.length : Int) : Int) := dA_; obtain ⟨i027, hi027, _, hsz27, _⟩ := info_parts info70; have hroom27 : l0.length ≤ c0 := HC0.out; have hC27 : Kd.C k70 _ (some ad143) l0.length l0 := HR0.out; have hcut27 := cut_to (P := Tryz.prog) 39 70 .i64 Tryz.underlying39 hi027 (some ad143) l0.length c0 x3_1 (dA_) q27 hroom27; have hr27 := Kd.C_take (m := (x3_1 : Int).toNat) hC27 (by omega); have hy27 : y145.length = (x3_1 : Int).toNat := (by rw [Ny145.out, List.length_take]; omega); rw [← Ny145.out] at hr27; rw [← hy27] at hcut27; have HR148 := Aside0.mk hr27; have HC148 := Aside0.mk (show y145.length ≤ c0 from by omega); clear hr27 hC27 hroom27 hi027 hsz27; have KY27 := Aside0.mk hy27; clear hy27; replace q27 := eq_true q27) | (go_at_call 71; (with_reducible refine (spec_l10Dir.calls kj3 _ _ y145 t144 true _ ?side1 ?side2 A25.out).mono ?_); (case side1 => repeat (first | exact (Kd.C_below HR148.out (bw_ HB)) | (with_reducible refine Kd.C_alloc ?_ _) | (with_reducible refine Kd.C_drewN ?_ _) | (with_reducible refine Kd.C_drew ?_))); (case side2 => exact HC148.out); rintro e w' ⟨rfl, ⟨nd, rfl⟩⟩))
     go_roundg kj3
     case measure => have := HK1.out; have := HJ3.out; omega
     case rel => exact ⟨(wrap64 (x3_1 + 1)), (by first | rfl | (simp; done) | (simp [*]; done)), H', ⟨by have := HK1.out; have := HJ3.out; omega⟩, ⟨bw_ HB⟩⟩}
     {
     replace c26 := Bool.eq_false_iff.mpr c26
     subst c26
     rw [if_neg (show ¬ (false = true) by decide)] at H
     obtain rfl := Option.some.inj H
     have p143 : 0 ≤ (x3_1 : Int) := dA_
     have q143 : x3_1 < (l0.length : Int) := dA_
     obtain ⟨ad143, e143, hx143_0, hx143_1, hx143_2, hx143_3⟩ := at_T70 HR0.out x3_1 p143 q143
     cases e143
     replace hx143_0 := hX_ HB hx143_0
     replace hx143_1 := hX_ HB hx143_1
     replace hx143_2 := hX_ HB hx143_2
     replace hx143_3 := hX_ HB hx143_3
     replace p143 := eq_true p143
     replace q143 := eq_true q143
     go_wp2_with (first | ((with_reducible refine gate_callee (f := 70) rfl ?_); refine gL_ (some 43) Tryz.func70 #[.string ((rd_T70 l0 x3_1).f0)] ?_; (with_reducible refine (spec_l10Up.calls kj3 ((rd_T70 l0 x3_1).f0) t144 _ A21.out).mono ?_); rintro e w' ⟨rfl, ⟨nd, rfl⟩⟩; refine ⟨_, rfl, ?_⟩; have q28 : (x3_1 : Int) ≤ ((l0.length : Int) : Int) := dA_; obtain ⟨i028, hi028, _, hsz28, _⟩ := info_parts info70; have hroom28 : l0.length ≤ c0 := HC0.out; have hC28 : Kd.C k70 _ (some ad143) l0.length l0 := HR0.out; have hcut28 := cut_to (P := Tryz.prog) 39 70 .i64 Tryz.underlying39 hi028 (some ad143) l0.length c0 x3_1 (dA_) q28 hroom28; have hr28 := Kd.C_take (m := (x3_1 : Int).toNat) hC28 (by omega); have hy28 : y145.length = (x3_1 : Int).toNat := (by rw [Ny145.out, List.length_take]; omega); rw [← Ny145.out] at hr28; rw [← hy28] at hcut28; have HR148 := Aside0.mk hr28; have HC148 := Aside0.mk (show y145.length ≤ c0 from by omega); clear hr28 hC28 hroom28 hi028 hsz28; have KY28 := Aside0.mk hy28; clear hy28; replace q28 := eq_true q28) | (go_at_call 71; (with_reducible refine (spec_l10Dir.calls kj3 _ _ y145 t144 false _ ?side1 ?side2 A25.out).mono ?_); (case side1 => repeat (first | exact (Kd.C_below HR148.out (bw_ HB)) | (with_reducible refine Kd.C_alloc ?_ _) | (with_reducible refine Kd.C_drewN ?_ _) | (with_reducible refine Kd.C_drew ?_))); (case side2 => exact HC148.out); rintro e w' ⟨rfl, ⟨nd, rfl⟩⟩))
     go_ret
     exact ⟨eR_, bw_ HB⟩}}
     {
     rw [if_neg c24] at H
     exact absurd H (by simp)}}}
     {
     rw [if_neg c20] at H
     exact absurd H (by simp)}}
     {
     rw [if_neg c19] at H
     exact absurd H (by simp)}}}
   {
   rw [if_neg c3] at H
   have c3b0 : decide (x3_1 < (l0.length : Int)) = false := decide_eq_false c3
   clear c3
   obtain rfl := Option.some.inj H
   go_wp2
   go_ret
   exact ⟨eR_, bw_ HB⟩
}}
end Go.Proofs.YtkhhkpjeafknpaaGreatDoor.P
end

section
namespace Go.Proofs.YtkhhkpjeafknpaaGreatDoor.P
open Go.RowKit Go.Proofs.YtkhhkpjeafknpaaGreatDoorW.PrintWords Go.Proofs.YtkhhkpjeafknpaaGreatDoorW.PrintLast Go.Proofs.YtkhhkpjeafknpaaGreatDoorW.PrintMore Go.Proofs.YtkhhkpjeafknpaaGreatDoorM
attribute [local go_sem] max2_int min2_int max_two min_two max_three min_three max_four min_four
set_option linter.unusedVariables false
set_option linter.unusedSimpArgs false
def impl_Word32.l0 : Nat → Int → List Int → Int → Int → Option (ByteArray)
 | 0, _, _, _, _ => none
 | k + 1, x0, x3, x7, x8 => if x8 < x7 then (if 0 ≤ (wrap64 (5 * x8)) then (if 0 ≤ (Go.bits .and .u64 (shr .u64 x0 (wrap64 (5 * x8))) 31) then (if (Go.bits .and .u64 (shr .u64 x0 (wrap64 (5 * x8))) 31) < 32 then (if 0 ≤ (wrap64 (12 - x8)) then (if (wrap64 (12 - x8)) < (x3.length : Int) then (impl_Word32.l0 k x0 (x3.set ((wrap64 (12 - x8)) : Int).toNat (bt (⟨#[48, 49, 50, 51, 52, 53, 54, 55, 56, 57, 97, 98, 99, 100, 102, 103, 104, 105, 106, 107, 108, 109, 110, 112, 113, 114, 115, 118, 119, 120, 121, 122]⟩ : ByteArray) (Go.bits .and .u64 (shr .u64 x0 (wrap64 (5 * x8))) 31))) x7 (wrap64 (x8 + 1))) else (none)) else (none)) else (none)) else (none)) else (none)) else (some (strOfNums x3))
def impl_Word32.f (k : Nat) (a0 : Int) : Option (ByteArray) := if 13 ≤ 281474976710656 then ((some (List.replicate 13 0 : List Int)).bind fun y360 => (impl_Word32.l0 k a0 y360 (y360.length : Int) 0)) else (none)
theorem impl_Word32.mono_l : ∀ k, (∀ y0 y1 y2 y3, LeO (impl_Word32.l0 k y0 y1 y2 y3) (impl_Word32.l0 (k + 1) y0 y1 y2 y3))
 | 0 => fun _ _ _ _ r h => by simp [impl_Word32.l0] at h
 | k + 1 => by
  have ih0 := impl_Word32.mono_l k
  {
  intro y0 y1 y2 y3
  unfold impl_Word32.l0
  repeat' first
  | (with_reducible exact ih0 _ _ _ _)
  | (with_reducible exact LeO.refl _)
  | (with_reducible exact LeO.none _)
  | (with_reducible refine LeO.ite ?_ ?_)
  | (with_reducible refine LeO.bind ?_ (fun _ => ?_))
  | exact ih0 _ _ _ _
  | exact LeO.none _
  | refine LeO.ite ?_ ?_
  | refine LeO.bind ?_ (fun _ => ?_)}
theorem impl_Word32.mono : ∀ a0 k, LeO (impl_Word32.f k a0) (impl_Word32.f (k + 1) a0) := by
 intro a0 k
 have ih0 := impl_Word32.mono_l k
 unfold impl_Word32.f
 repeat' first
  | (with_reducible exact ih0 _ _ _ _)
  | (with_reducible exact LeO.refl _)
  | (with_reducible exact LeO.none _)
  | (with_reducible refine LeO.ite ?_ ?_)
  | (with_reducible refine LeO.bind ?_ (fun _ => ?_))
  | exact ih0 _ _ _ _
  | exact LeO.none _
  | refine LeO.ite ?_ ?_
  | refine LeO.bind ?_ (fun _ => ?_)
set_option maxHeartbeats 8000000 in
set_option maxRecDepth 100000 in
theorem impl_Word32.calls (k : Nat) (a0 : Int) (r : ByteArray) (w : World) (h : impl_Word32.f k a0 = some r) :
 Calls Tryz.prog 74 #[.int .u64 a0] w fun e w' => e = .returned (.string r) ∧ Below w.heap.size w w' := by
 have HB := Aside0.mk (Below.refl w.heap.size w)
 have H : (if 13 ≤ 281474976710656 then ((some (List.replicate 13 0 : List Int)).bind fun y360 => (impl_Word32.l0 k a0 y360 (y360.length : Int) 0)) else (none)) = some r := h
 clear h
 by_cases c2 : 13 ≤ 281474976710656
 {
 rw [if_pos c2] at H
 have c2b0 := eq_true c2
 have c2b1 : decide (13 ≤ 281474976710656) = true := decide_eq_true c2
 clear c2
 obtain ⟨y360, hy360⟩ : ∃ y_ : List Int, y_ = (List.replicate 13 0) := ⟨_, rfl⟩
 replace H : (impl_Word32.l0 k a0 y360 (y360.length : Int) 0) = some r := by first | (rw [hy360]; with_reducible exact H) | (have H2_ := (Option.bind_some _ _).symm.trans H; rw [hy360]; with_reducible exact H2_) | (have H2_ := (Option.bind_some _ _).symm.trans H; with_reducible exact H2_) | with_reducible exact H | (rw [hy360]; exact H) | exact H
 have Ny360 := Aside0.mk hy360
 clear hy360
 have H' := Aside0.mk H
 clear H
 go_enter Tryz.func74, Tryz.ntmps74
 go_wp2_with (first | ((with_reducible refine gate_dst (N := 5) rfl ?_); refine Kd.R_make (Kd.int .u8) _ 5 rfl (N := 5) rfl 81 _ _ rfl 13 rfl rfl Tryz.underlying81 (.int .u8 0) 1 info5 rfl (by decide) (by omega) 0 (ok := fun _ => True) (okp := fun _ => True) rfl (fun _ hk => hk) trivial (by omega) (by omega) (Below.refl _ _) (Nat.le_refl _) ?_; intro v361 w3 ho4 hb hg_ hnew_; clear hg_ hnew_; (first | rw [← Ny360.out] at ho4 | (simp only [Int.reduceToNat] at ho4; rw [← Ny360.out] at ho4)); have n0_ := Aside0.mk (Kd.R_lower ho4 (below_size (bw_ HB))); have n1_ := Aside0.mk (below_step (bw_ HB) hb); clear HB; have HO362 := n0_; have HB := n1_; clear n0_ n1_; clear hb ho4; obtain ⟨Ao5, co5, eo5⟩ := Kd.R_slice HO362.out; subst eo5))
 go_loopg [8] k (fun kq v8 w' => ∃ (x3_1 : List Int) (x8_1 : Int), v8 = .int .i64 x8_1 ∧ Aside0 (impl_Word32.l0 kq a0 x3_1 (y360.length : Int) x8_1 = some r) ∧ Aside0 (kq ≤ k) ∧ Aside0 (Kd.R (Kd.int .u8) 5 w' w.heap.size (fun _ => True) (.slice Ao5 y360.length co5) x3_1) ∧ Aside0 (Below w.heap.size w w'))
 case atStart => exact ⟨(y360), (0), (by first | rfl | (simp; done) | (simp [*]; done)), H', ⟨Nat.le_refl _⟩, ⟨by (with_reducible repeat (first | apply Kd.R_alloc | apply Kd.R_drewN | apply Kd.R_drew)); exact HO362.out⟩, ⟨bw_ HB⟩⟩
 case round =>
  clear H'
  try clear c2
  try clear c2b0
  try clear c2b1
  try clear p2
  obtain ⟨x3_1, x8_1, rfl, HA, HK1, HO_3, HB⟩ := hrel
  have hl3_1 := (Kd.R_reads' HO_3.out).1
  rw [hl3_1] at HO_3
  (try simp only [hl3_1])
  cases gk with
  | zero => exact absurd HA.out (by simp [impl_Word32.l0])
  | succ k1 =>
   have H := HA.out
   clear HA
   simp only [impl_Word32.l0] at H
   by_cases c6 : x8_1 < (y360.length : Int)
   {
   rw [if_pos c6] at H
   have c6b0 : decide (x8_1 < (y360.length : Int)) = true := decide_eq_true c6
   (try (have c6b0' := c6b0; simp only [hl3_1] at c6b0'))
   clear c6
   obtain ⟨ji7, hji7⟩ : ∃ j_ : Int, (wrap64 (5 * x8_1)) = j_ := ⟨_, rfl⟩
   replace H : (if 0 ≤ (ji7) then (if 0 ≤ (Go.bits .and .u64 (shr .u64 a0 (ji7)) 31) then (if (Go.bits .and .u64 (shr .u64 a0 (ji7)) 31) < 32 then (if 0 ≤ (wrap64 (12 - x8_1)) then (if (wrap64 (12 - x8_1)) < (x3_1.length : Int) then (impl_Word32.l0 k1 a0 (x3_1.set ((wrap64 (12 - x8_1)) : Int).toNat (bt (⟨#[48, 49, 50, 51, 52, 53, 54, 55, 56, 57, 97, 98, 99, 100, 102, 103, 104, 105, 106, 107, 108, 109, 110, 112, 113, 114, 115, 118, 119, 120, 121, 122]⟩ : ByteArray) (Go.bits .and .u64 (shr .u64 a0 (ji7)) 31))) (y360.length : Int) (wrap64 (x8_1 + 1))) else (none)) else (none)) else (none)) else (none)) else (none)) = some r := by first | (rw [hji7] at H; exact H) | (simp only [hji7] at H ⊢; exact H)
   have hji7w : (IntKind.i64.wrap (5 * x8_1)) = ji7 := (i64_w _).trans hji7
   by_cases c8 : 0 ≤ (ji7)
   {
   rw [if_pos c8] at H
   have c8b0 := eq_true c8
   have c8b1 : decide (0 ≤ (ji7)) = true := decide_eq_true c8
   clear c8
   obtain ⟨ji9, hji9⟩ : ∃ j_ : Int, (shr .u64 a0 (ji7)) = j_ := ⟨_, rfl⟩
   replace H : (if 0 ≤ (Go.bits .and .u64 (ji9) 31) then (if (Go.bits .and .u64 (ji9) 31) < 32 then (if 0 ≤ (wrap64 (12 - x8_1)) then (if (wrap64 (12 - x8_1)) < (x3_1.length : Int) then (impl_Word32.l0 k1 a0 (x3_1.set ((wrap64 (12 - x8_1)) : Int).toNat (bt (⟨#[48, 49, 50, 51, 52, 53, 54, 55, 56, 57, 97, 98, 99, 100, 102, 103, 104, 105, 106, 107, 108, 109, 110, 112, 113, 114, 115, 118, 119, 120, 121, 122]⟩ : ByteArray) (Go.bits .and .u64 (ji9) 31))) (y360.length : Int) (wrap64 (x8_1 + 1))) else (none)) else (none)) else (none)) else (none)) = some r := by first | (rw [hji9] at H; exact H) | (simp only [hji9] at H ⊢; exact H)
   have hji9_ : (a0 / 2 ^ min (ji7).toNat 64) = ji9 := hji9
   have hji9z : (ji7) ≤ 64 → (a0 / 2 ^ (ji7).toNat) = ji9 := shr_small hji9
   by_cases c10 : 0 ≤ (Go.bits .and .u64 (ji9) 31)
   {
   rw [if_pos c10] at H
   have c10b0 : decide (0 ≤ (Go.bits .and .u64 (ji9) 31)) = true := decide_eq_true c10
   clear c10
   by_cases c11 : (Go.bits .and .u64 (ji9) 31) < 32
   {
   rw [if_pos c11] at H
   have c11b0 : decide ((Go.bits .and .u64 (ji9) 31) < 32) = true := decide_eq_true c11
   clear c11
   obtain ⟨ji13, hji13⟩ : ∃ j_ : Int, (wrap64 (12 - x8_1)) = j_ := ⟨_, rfl⟩
   replace H : (if 0 ≤ (ji13) then (if (ji13) < (x3_1.length : Int) then (impl_Word32.l0 k1 a0 (x3_1.set ((ji13) : Int).toNat (bt (⟨#[48, 49, 50, 51, 52, 53, 54, 55, 56, 57, 97, 98, 99, 100, 102, 103, 104, 105, 106, 107, 108, 109, 110, 112, 113, 114, 115, 118, 119, 120, 121, 122]⟩ : ByteArray) (Go.bits .and .u64 (ji9) 31))) (y360.length : Int) (wrap64 (x8_1 + 1))) else (none)) else (none)) = some r := by first | (rw [hji13] at H; exact H) | (simp only [hji13] at H ⊢; exact H)
   have hji13w : (IntKind.i64.wrap (12 - x8_1)) = ji13 := (i64_w _).trans hji13
   by_cases c14 : 0 ≤ (ji13)
   {
   rw [if_pos c14] at H
   have c14b0 : decide (0 ≤ (ji13)) = true := decide_eq_true c14
   clear c14
   by_cases c15 : (ji13) < (x3_1.length : Int)
   {
   rw [if_pos c15] at H
   have c15b0 : decide ((ji13) < (x3_1.length : Int)) = true := decide_eq_true c15
   (try (have c15b0' := c15b0; simp only [hl3_1] at c15b0'))
   clear c15
   obtain ⟨y363, hy363⟩ : ∃ y_ : List Int, y_ = (x3_1.set ((ji13) : Int).toNat (bt (⟨#[48, 49, 50, 51, 52, 53, 54, 55, 56, 57, 97, 98, 99, 100, 102, 103, 104, 105, 106, 107, 108, 109, 110, 112, 113, 114, 115, 118, 119, 120, 121, 122]⟩ : ByteArray) (Go.bits .and .u64 (ji9) 31))) := ⟨_, rfl⟩
   replace H : (impl_Word32.l0 k1 a0 y363 (y360.length : Int) (wrap64 (x8_1 + 1))) = some r := by first | (rw [hy363]; with_reducible exact H) | (have H2_ := (Option.bind_some _ _).symm.trans H; rw [hy363]; with_reducible exact H2_) | (have H2_ := (Option.bind_some _ _).symm.trans H; with_reducible exact H2_) | with_reducible exact H | (rw [hy363]; exact H) | exact H
   have Ny363 := Aside0.mk hy363
   clear hy363
   have H' := Aside0.mk H
   clear H
   have p12 : 0 ≤ ((Go.bits .and .u64 (ji9) 31) : Int) := dA_
   have q12 : (Go.bits .and .u64 (ji9) 31) < (32 : Int) := dA_
   have hx12 := bt_at (⟨#[48, 49, 50, 51, 52, 53, 54, 55, 56, 57, 97, 98, 99, 100, 102, 103, 104, 105, 106, 107, 108, 109, 110, 112, 113, 114, 115, 118, 119, 120, 121, 122]⟩ : ByteArray) (Go.bits .and .u64 (ji9) 31)
   replace p12 := eq_true p12
   replace q12 := eq_true q12
   have p16 : 0 ≤ ((ji13) : Int) := dA_
   have q16 : ((ji13) : Int) < ((x3_1.length : Int) : Int) := dA_
   obtain ⟨go16, co16, eo16, gb16, gl16, cl16, HG16⟩ := Kd.R_form HO_3.out (by omega)
   (first | cases eo16 | (injection eo16 with ea_ en_ ec_; (first | subst ea_ | (injection ea_ with ea_; subst ea_)); subst ec_; clear en_))
   have GB16 := Aside0.mk gb16
   have GG16 := Aside0.mk HG16
   clear gb16 gl16 HG16
   obtain ⟨hx16_0, hf16_0⟩ := Kd.R_celln 0 HO_3.out ((ji13) : Int) p16 q16
   replace p16 := eq_true p16
   replace q16 := eq_true q16
   have HP17 := Kd.R_putg HO_3.out ((ji13) : Int) (bt (⟨#[48, 49, 50, 51, 52, 53, 54, 55, 56, 57, 97, 98, 99, 100, 102, 103, 104, 105, 106, 107, 108, 109, 110, 112, 113, 114, 115, 118, 119, 120, 121, 122]⟩ : ByteArray) (Go.bits .and .u64 (ji9) 31))
   go_wp2_with (first | ((with_reducible refine gate_store (t := 5) (p := 20) rfl ?_); refine store_event (t := 5) (p := 20) (v := ?vo_w18) (w1 := (wr.setCell ⟨go16, ((ji13) : Int).toNat, none⟩ (.int .u8 (bt (⟨#[48, 49, 50, 51, 52, 53, 54, 55, 56, 57, 97, 98, 99, 100, 102, 103, 104, 105, 106, 107, 108, 109, 110, 112, 113, 114, 115, 118, 119, 120, 121, 122]⟩ : ByteArray) (Go.bits .and .u64 (ji9) 31))))) ?hg ?ho ?hn ?hr ?_; (case ho => rfl); (case hg => rfl); (case hn => rfl); (case hr => first | (go_simp; done) | (go_simp; rfl)); intro w18 hw; have hg : wr.grownBy w18 (some go16) := (by rw [hw]; exact HP17.2); have hp_ : Kd.R (Kd.int .u8) 5 w18 w.heap.size (fun _ => True) (.slice (some ⟨go16, 0, none⟩) x3_1.length co5) y363 := (by rw [hw, Ny363.out]; exact HP17.1); clear HP17; have n0_ := Aside0.mk (hp_); have n1_ := Aside0.mk ((by rw [hw]; exact below_set (HB.out) GB16.out : Below w.heap.size w w18)); clear HO_3; clear HB; have HO_3 := n0_; have HB := n1_; clear n0_ n1_; clear hg hw hp_))
   (try simp only [← hl3_1])
   go_roundg k1
   case measure => have := HK1.out; omega
   case rel => exact ⟨(y363), (wrap64 (x8_1 + 1)), (by first | rfl | (simp; done) | (simp [*]; done)), H', ⟨by have := HK1.out; omega⟩, ⟨by (try simp only [hl3_1]); (with_reducible repeat (first | apply Kd.R_alloc | apply Kd.R_drewN | apply Kd.R_drew)); exact HO_3.out⟩, ⟨bw_ HB⟩⟩}
   {
   rw [if_neg c15] at H
   exact absurd H (by simp)}}
   {
   rw [if_neg c14] at H
   exact absurd H (by simp)}}
   {
   rw [if_neg c11] at H
   exact absurd H (by simp)}}
   {
   rw [if_neg c10] at H
   exact absurd H (by simp)}}
   {
   rw [if_neg c8] at H
   exact absurd H (by simp)}}
   {
   rw [if_neg c6] at H
   have c6b0 : decide (x8_1 < (y360.length : Int)) = false := decide_eq_false c6
   (try (have c6b0' := c6b0; simp only [hl3_1] at c6b0'))
   clear c6
   obtain rfl := Option.some.inj H
   have hcv19 := own_string (P := Tryz.prog) Tryz.underlying81 Tryz.underlying5 Tryz.underlying9 (Kd.own_of_R HO_3.out)
   go_wp2
   go_ret
   exact ⟨eR_, bw_ HB⟩}}
 {
 rw [if_neg c2] at H
 exact absurd H (by simp)
}
mutual
def impl_Sum.l0 : Nat → Int → List Int → Int → Int → Option (Int)
 | 0, _, _, _, _ => none
 | k + 1, x3, x6, x7, x8 => if x8 < x7 then (if 0 ≤ x8 then (if x8 < (x6.length : Int) then (impl_Sum.l0 k (IntKind.u64.wrap ((Go.bits .xor .u64 x3 (IntKind.u64.wrap (rd x6 x8))) * 1099511628211)) x6 x7 (wrap64 (x8 + 1))) else (none)) else (none)) else (impl_Sum.l1 k x3 0)
def impl_Sum.l1 : Nat → Int → Int → Option (Int)
 | 0, _, _ => none
 | k + 1, x3, x18 => if x18 < 3 then (impl_Sum.l1 k (IntKind.u64.wrap ((Go.bits .xor .u64 x3 (x3 / 536870912)) * 11400714819323198485)) (wrap64 (x18 + 1))) else (some (Go.bits .xor .u64 x3 (x3 / 4294967296)))
end
def impl_Sum.f (k : Nat) (l0 : List Int) : Option (Int) := impl_Sum.l0 k 14695981039346656037 l0 (l0.length : Int) 0
theorem impl_Sum.mono_l : ∀ k, (∀ y0 y1 y2 y3, LeO (impl_Sum.l0 k y0 y1 y2 y3) (impl_Sum.l0 (k + 1) y0 y1 y2 y3)) ∧ (∀ y0 y1, LeO (impl_Sum.l1 k y0 y1) (impl_Sum.l1 (k + 1) y0 y1))
 | 0 => ⟨fun _ _ _ _ r h => by simp [impl_Sum.l0] at h, fun _ _ r h => by simp [impl_Sum.l1] at h⟩
 | k + 1 => by
  obtain ⟨ih0, ih1⟩ := impl_Sum.mono_l k
  refine ⟨?_, ?_⟩
  {
  intro y0 y1 y2 y3
  unfold impl_Sum.l0
  repeat' first
  | (with_reducible exact ih0 _ _ _ _)
  | (with_reducible exact ih1 _ _)
  | (with_reducible exact LeO.refl _)
  | (with_reducible exact LeO.none _)
  | (with_reducible refine LeO.ite ?_ ?_)
  | (with_reducible refine LeO.bind ?_ (fun _ => ?_))
  | exact ih0 _ _ _ _
  | exact ih1 _ _
  | exact LeO.none _
  | refine LeO.ite ?_ ?_
  | refine LeO.bind ?_ (fun _ => ?_)}
  {
  intro y0 y1
  unfold impl_Sum.l1
  repeat' first
  | (with_reducible exact ih0 _ _ _ _)
  | (with_reducible exact ih1 _ _)
  | (with_reducible exact LeO.refl _)
  | (with_reducible exact LeO.none _)
  | (with_reducible refine LeO.ite ?_ ?_)
  | (with_reducible refine LeO.bind ?_ (fun _ => ?_))
  | exact ih0 _ _ _ _
  | exact ih1 _ _
  | exact LeO.none _
  | refine LeO.ite ?_ ?_
  | refine LeO.bind ?_ (fun _ => ?_)}
theorem impl_Sum.mono : ∀ a0 k, LeO (impl_Sum.f k a0) (impl_Sum.f (k + 1) a0) := by
 intro a0 k
 obtain ⟨ih0, ih1⟩ := impl_Sum.mono_l k
 unfold impl_Sum.f
 repeat' first
  | (with_reducible exact ih0 _ _ _ _)
  | (with_reducible exact ih1 _ _)
  | (with_reducible exact LeO.refl _)
  | (with_reducible exact LeO.none _)
  | (with_reducible refine LeO.ite ?_ ?_)
  | (with_reducible refine LeO.bind ?_ (fun _ => ?_))
  | exact ih0 _ _ _ _
  | exact ih1 _ _
  | exact LeO.none _
  | refine LeO.ite ?_ ?_
  | refine LeO.bind ?_ (fun _ => ?_)
set_option maxHeartbeats 8000000 in
set_option maxRecDepth 100000 in
theorem impl_Sum.calls (k : Nat) (A0 : Option Addr) (c0 : Nat) (l0 : List Int) (r : Int) (w : World) (hr0 : Kd.C (Kd.int .u8) w A0 l0.length l0) (hc0 : l0.length ≤ c0) (h : impl_Sum.f k l0 = some r) :
 Calls Tryz.prog 75 #[.slice A0 l0.length c0] w fun e w' => e = .returned (.int .u64 r) ∧ Drawn0 w w' := by
 have HR0 := Aside0.mk hr0
 have HC0 := Aside0.mk hc0
 clear hr0 hc0
 have H : (impl_Sum.l0 k 14695981039346656037 l0 (l0.length : Int) 0) = some r := h
 clear h
 have H' := Aside0.mk H
 clear H
 go_enter Tryz.func75, Tryz.ntmps75
 go_wp2
 go_loopg [3, 8] k (fun kq v3 v8 w' => ∃ (x3_1 : Int) (x8_1 : Int), v3 = .int .u64 x3_1 ∧ v8 = .int .i64 x8_1 ∧ Aside0 (impl_Sum.l0 kq x3_1 l0 (l0.length : Int) x8_1 = some r) ∧ Aside0 (kq ≤ k) ∧ Drawn0 w w')
 case atStart => exact ⟨(14695981039346656037), (0), (by first | rfl | (simp; done) | (simp [*]; done)), (by first | rfl | (simp; done) | (simp [*]; done)), H', ⟨Nat.le_refl _⟩, dR_⟩
 case round =>
  clear H'
  obtain ⟨x3_1, x8_1, rfl, rfl, HA, HK1, ⟨m1, rfl⟩⟩ := hrel
  cases gk with
  | zero => exact absurd HA.out (by simp [impl_Sum.l0])
  | succ k1 =>
   have H := HA.out
   clear HA
   simp only [impl_Sum.l0] at H
   by_cases c2 : x8_1 < (l0.length : Int)
   {
   rw [if_pos c2] at H
   have c2b0 : decide (x8_1 < (l0.length : Int)) = true := decide_eq_true c2
   clear c2
   by_cases c3 : 0 ≤ x8_1
   {
   rw [if_pos c3] at H
   have c3b0 : decide (0 ≤ x8_1) = true := decide_eq_true c3
   clear c3
   by_cases c4 : x8_1 < (l0.length : Int)
   {
   rw [if_pos c4] at H
   have c4b0 : decide (x8_1 < (l0.length : Int)) = true := decide_eq_true c4
   clear c4
   have H' := Aside0.mk H
   clear H
   have p364 : 0 ≤ (x8_1 : Int) := dA_
   have q364 : x8_1 < (l0.length : Int) := dA_
   obtain ⟨ad364, e364, hx364_0⟩ := Kd.at_int HR0.out x8_1 p364 q364
   cases e364
   replace p364 := eq_true p364
   replace q364 := eq_true q364
   go_wp2
   go_roundg k1
   case measure => have := HK1.out; omega
   case rel => exact ⟨(IntKind.u64.wrap ((Go.bits .xor .u64 x3_1 (IntKind.u64.wrap (rd l0 x8_1))) * 1099511628211)), (wrap64 (x8_1 + 1)), (by first | rfl | (simp; done) | (simp [*]; done)), (by first | rfl | (simp; done) | (simp [*]; done)), H', ⟨by have := HK1.out; omega⟩, dR_⟩}
   {
   rw [if_neg c4] at H
   exact absurd H (by simp)}}
   {
   rw [if_neg c3] at H
   exact absurd H (by simp)}}
   {
   rw [if_neg c2] at H
   have c2b0 : decide (x8_1 < (l0.length : Int)) = false := decide_eq_false c2
   clear c2
   have H' := Aside0.mk H
   clear H
   go_wp2
   go_loopg [3, 18] k1 (fun kq v3 v18 w' => ∃ (x3_2 : Int) (x18_2 : Int), v3 = .int .u64 x3_2 ∧ v18 = .int .i64 x18_2 ∧ Aside0 (impl_Sum.l1 kq x3_2 x18_2 = some r) ∧ Aside0 (kq ≤ k1) ∧ Drawn0 w w')
   case atStart => exact ⟨(x3_1), (0), (by first | rfl | (simp; done) | (simp [*]; done)), (by first | rfl | (simp; done) | (simp [*]; done)), H', ⟨Nat.le_refl _⟩, dR_⟩
   case round =>
    clear H'
    try clear c2
    try clear c2b0
    try clear p2
    try clear c3
    try clear c3b0
    try clear p3
    try clear q3
    try clear hx3
    try clear c4
    try clear c4b0
    try clear hx364_0
    try clear p364
    try clear q364
    obtain ⟨x3_2, x18_2, rfl, rfl, HA, HK2, ⟨m2, rfl⟩⟩ := hrel
    cases gk with
    | zero => exact absurd HA.out (by simp [impl_Sum.l1])
    | succ k2 =>
     have H := HA.out
     clear HA
     simp only [impl_Sum.l1] at H
     by_cases c5 : x18_2 < 3
     {
     rw [if_pos c5] at H
     have c5b0 : decide (x18_2 < 3) = true := decide_eq_true c5
     clear c5
     have H' := Aside0.mk H
     clear H
     go_wp2
     go_roundg k2
     case measure => have := HK1.out; have := HK2.out; omega
     case rel => exact ⟨(IntKind.u64.wrap ((Go.bits .xor .u64 x3_2 (x3_2 / 536870912)) * 11400714819323198485)), (wrap64 (x18_2 + 1)), (by first | rfl | (simp; done) | (simp [*]; done)), (by first | rfl | (simp; done) | (simp [*]; done)), H', ⟨by have := HK1.out; have := HK2.out; omega⟩, dR_⟩}
     {
     rw [if_neg c5] at H
     have c5b0 : decide (x18_2 < 3) = false := decide_eq_false c5
     clear c5
     obtain rfl := Option.some.inj H
     go_wp2
     go_ret
     exact ⟨eS_, dR_⟩
}}
def impl_varint.l0 : Nat → List Int → Int → Option (List Int)
 | 0, _, _ => none
 | k + 1, x0, x1 => if x1 > 127 then (if x0.length < 140737488355328 then (impl_varint.l0 k (x0 ++ [(Go.bits .or .i64 (Go.bits .and .i64 x1 127) 128) % 256]) (x1 / 128)) else (none)) else (if x0.length < 140737488355328 then (some (x0 ++ [(x1) % 256])) else (none))
def impl_varint.f (k : Nat) (l0 : List Int) (a1 : Int) : Option (List Int) := impl_varint.l0 k l0 a1
theorem impl_varint.mono_l : ∀ k, (∀ y0 y1, LeO (impl_varint.l0 k y0 y1) (impl_varint.l0 (k + 1) y0 y1))
 | 0 => fun _ _ r h => by simp [impl_varint.l0] at h
 | k + 1 => by
  have ih0 := impl_varint.mono_l k
  {
  intro y0 y1
  unfold impl_varint.l0
  repeat' first
  | (with_reducible exact ih0 _ _)
  | (with_reducible exact LeO.refl _)
  | (with_reducible exact LeO.none _)
  | (with_reducible refine LeO.ite ?_ ?_)
  | (with_reducible refine LeO.bind ?_ (fun _ => ?_))
  | exact ih0 _ _
  | exact LeO.none _
  | refine LeO.ite ?_ ?_
  | refine LeO.bind ?_ (fun _ => ?_)}
theorem impl_varint.mono : ∀ a0 a1 k, LeO (impl_varint.f k a0 a1) (impl_varint.f (k + 1) a0 a1) := by
 intro a0 a1 k
 have ih0 := impl_varint.mono_l k
 unfold impl_varint.f
 repeat' first
  | (with_reducible exact ih0 _ _)
  | (with_reducible exact LeO.refl _)
  | (with_reducible exact LeO.none _)
  | (with_reducible refine LeO.ite ?_ ?_)
  | (with_reducible refine LeO.bind ?_ (fun _ => ?_))
  | exact ih0 _ _
  | exact LeO.none _
  | refine LeO.ite ?_ ?_
  | refine LeO.bind ?_ (fun _ => ?_)
set_option maxHeartbeats 8000000 in
set_option maxRecDepth 100000 in
theorem impl_varint.calls (k : Nat) (P0_ : Nat → Prop) (u9000_ : Value) (l0 : List Int) (a1 : Int) (r : List Int) (w0 w : World) (hB : Below w0.heap.size w0 w) (ho0 : Kd.R (Kd.int .u8) 5 w w0.heap.size P0_ u9000_ l0) (h : impl_varint.f k l0 a1 = some r) :
 Calls Tryz.prog 95 #[u9000_, .int .i64 a1] w fun e w' => ∃ v0_ : Value, e = .returned (v0_) ∧ Kd.R (Kd.int .u8) 5 w' w0.heap.size (fun k_ => (P0_ k_ ∨ w.heap.size ≤ k_)) v0_ r ∧ Below w0.heap.size w0 w' ∧ Kept w w' (fun k_ => P0_ k_) := by
 have HO0 := Aside0.mk (show Kd.R (Kd.int .u8) 5 w w0.heap.size (fun k_ => (P0_ k_ ∨ w.heap.size ≤ k_)) u9000_ l0 from Kd.R_mono ho0 (fun k_ hk => (.inl hk)))
 have HK := Aside0.mk (Kept.refl w (fun k_ => P0_ k_))
 have HW0 := Aside0.mk hB.size
 have HB := Aside0.mk hB
 clear hB
 have H : (impl_varint.l0 k l0 a1) = some r := h
 clear h
 have H' := Aside0.mk H
 clear H
 go_enter Tryz.func95, Tryz.ntmps95
 go_wp2
 go_loopg [0, 1] k (fun kq v0 v1 w' => ∃ (x0_1 : List Int) (x1_1 : Int), v1 = .int .i64 x1_1 ∧ Aside0 (impl_varint.l0 kq x0_1 x1_1 = some r) ∧ Aside0 (kq ≤ k) ∧ Aside0 (Kd.R (Kd.int .u8) 5 w' w0.heap.size (fun k_ => (P0_ k_ ∨ w.heap.size ≤ k_)) v0 x0_1) ∧ Aside0 (Kept w w' (fun k_ => P0_ k_)) ∧ Aside0 (Below w0.heap.size w0 w'))
 case atStart => exact ⟨(l0), (a1), (by first | rfl | (simp; done) | (simp [*]; done)), H', ⟨Nat.le_refl _⟩, ⟨by (with_reducible repeat (first | apply Kd.R_alloc | apply Kd.R_drewN | apply Kd.R_drew)); exact HO0.out⟩, ⟨by repeat (first | (with_reducible first | exact HK.out | apply Kept.alloc | apply Kept.drewN | apply Kept.drew) | exact HK.out)⟩, ⟨bw_ HB⟩⟩
 case round =>
  clear H'
  try clear p2
  obtain ⟨x0_1, x1_1, rfl, HA, HK1, HO_0, HK, HB⟩ := hrel
  cases gk with
  | zero => exact absurd HA.out (by simp [impl_varint.l0])
  | succ k1 =>
   have H := HA.out
   clear HA
   simp only [impl_varint.l0] at H
   by_cases c3 : x1_1 > 127
   {
   rw [if_pos c3] at H
   have c3b0 : decide (127 < x1_1) = true := decide_eq_true c3
   clear c3
   by_cases c4 : x0_1.length < 140737488355328
   {
   rw [if_pos c4] at H
   have LMc4 := Aside0.mk c4
   clear c4
   obtain ⟨y365, hy365⟩ : ∃ y_ : List Int, y_ = (x0_1 ++ [(Go.bits .or .i64 (Go.bits .and .i64 x1_1 127) 128) % 256]) := ⟨_, rfl⟩
   replace H : (impl_varint.l0 k1 y365 (x1_1 / 128)) = some r := by first | (rw [hy365]; with_reducible exact H) | (have H2_ := (Option.bind_some _ _).symm.trans H; rw [hy365]; with_reducible exact H2_) | (have H2_ := (Option.bind_some _ _).symm.trans H; with_reducible exact H2_) | with_reducible exact H | (rw [hy365]; exact H) | exact H
   have Ny365 := Aside0.mk hy365
   clear hy365
   have H' := Aside0.mk H
   clear H
   go_wp2_with (first | ((with_reducible refine gate_builtin (b := .append) (xs := #[.tmp 7, .tmp 12]) rfl ?_); at_builtin; refine Kd.R_append (Kd.int .u8) (w0 := w0) w0.heap.size rfl (.tmp 7) (.tmp 12) 81 5 (.int .u8 0) 1 rfl Tryz.underlying81 info5 rfl (by decide) (by omega) u0 x0_1 ((Go.bits .or .i64 (Go.bits .and .i64 x1_1 127) 128) % 256) [.int .u8 ((Go.bits .or .i64 (Go.bits .and .i64 x1_1 127) 128) % 256)] (fun k_ => (P0_ k_ ∨ w.heap.size ≤ k_)) (fun _ => False) rfl rfl ?aP (fun _ hk => hk.elim) ?aF ?aO ?aB ?aS ?aL ?_; (case aP => exact rfl); (case aB => exact (bw_ HB)); (case aF => exact (fun k_ hk => (.inr (Nat.le_trans (by first | exact HK.out.1 | exact (show Kept w _ (fun k_ => P0_ k_) from by repeat (first | (with_reducible first | exact HK.out | apply Kept.alloc | apply Kept.drewN | apply Kept.drew) | exact HK.out)).1) hk)))); (case aO => exact (by (with_reducible repeat (first | apply Kd.R_alloc | apply Kd.R_drewN | apply Kd.R_drew)); exact HO_0.out)); (case aS => exact (below_size (bw_ HB))); (case aL => have := LMc4.out; omega); intro v366 w5 ho hb hg hat; rw [← Ny365.out] at ho; have n0_ := Aside0.mk (hb); have n1_ := Aside0.mk (Kept.of_grown (S := (fun k_ => P0_ k_)) hg (by repeat (first | (with_reducible first | exact HK.out | apply Kept.alloc | apply Kept.drewN | apply Kept.drew) | exact HK.out)) (fun k_ e_ => (HO_0.out.1 k_ e_))); have n2_ := Aside0.mk (ho); clear HB; clear HK; clear HO_0; have HB := n0_; have HK := n1_; have HO367 := n2_; clear n0_ n1_ n2_; clear ho hb hg hat))
   go_roundg k1
   case measure => have := HK1.out; omega
   case rel => exact ⟨(y365), (x1_1 / 128), (by first | rfl | (simp; done) | (simp [*]; done)), H', ⟨by have := HK1.out; omega⟩, ⟨by (with_reducible repeat (first | apply Kd.R_alloc | apply Kd.R_drewN | apply Kd.R_drew)); exact HO367.out⟩, ⟨by repeat (first | (with_reducible first | exact HK.out | apply Kept.alloc | apply Kept.drewN | apply Kept.drew) | exact HK.out)⟩, ⟨bw_ HB⟩⟩}
   {
   rw [if_neg c4] at H
   exact absurd H (by simp)}}
   {
   rw [if_neg c3] at H
   have c3b0 : decide (127 < x1_1) = false := decide_eq_false c3
   clear c3
   by_cases c6 : x0_1.length < 140737488355328
   {
   rw [if_pos c6] at H
   have LMc6 := Aside0.mk c6
   clear c6
   obtain ⟨y368, hy368⟩ : ∃ y_ : List Int, y_ = (x0_1 ++ [(x1_1) % 256]) := ⟨_, rfl⟩
   replace H : (some y368) = some r := by first | (rw [hy368]; with_reducible exact H) | (have H2_ := (Option.bind_some _ _).symm.trans H; rw [hy368]; with_reducible exact H2_) | (have H2_ := (Option.bind_some _ _).symm.trans H; with_reducible exact H2_) | with_reducible exact H | (rw [hy368]; exact H) | exact H
   have Ny368 := Aside0.mk hy368
   clear hy368
   obtain rfl := Option.some.inj H
   go_wp2_with (first | ((with_reducible refine gate_builtin (b := .append) (xs := #[.tmp 16, .tmp 19]) rfl ?_); at_builtin; refine Kd.R_append (Kd.int .u8) (w0 := w0) w0.heap.size rfl (.tmp 16) (.tmp 19) 81 5 (.int .u8 0) 1 rfl Tryz.underlying81 info5 rfl (by decide) (by omega) u0 x0_1 ((x1_1) % 256) [.int .u8 ((x1_1) % 256)] (fun k_ => (P0_ k_ ∨ w.heap.size ≤ k_)) (fun _ => False) rfl rfl ?aP (fun _ hk => hk.elim) ?aF ?aO ?aB ?aS ?aL ?_; (case aP => exact rfl); (case aB => exact (bw_ HB)); (case aF => exact (fun k_ hk => (.inr (Nat.le_trans (by first | exact HK.out.1 | exact (show Kept w _ (fun k_ => P0_ k_) from by repeat (first | (with_reducible first | exact HK.out | apply Kept.alloc | apply Kept.drewN | apply Kept.drew) | exact HK.out)).1) hk)))); (case aO => exact (by (with_reducible repeat (first | apply Kd.R_alloc | apply Kd.R_drewN | apply Kd.R_drew)); exact HO_0.out)); (case aS => exact (below_size (bw_ HB))); (case aL => have := LMc6.out; omega); intro v369 w7 ho hb hg hat; rw [← Ny368.out] at ho; have n0_ := Aside0.mk (hb); have n1_ := Aside0.mk (Kept.of_grown (S := (fun k_ => P0_ k_)) hg (by repeat (first | (with_reducible first | exact HK.out | apply Kept.alloc | apply Kept.drewN | apply Kept.drew) | exact HK.out)) (fun k_ e_ => (HO_0.out.1 k_ e_))); have n2_ := Aside0.mk (ho); clear HB; clear HK; clear HO_0; have HB := n0_; have HK := n1_; have HO370 := n2_; clear n0_ n1_ n2_; clear ho hb hg hat))
   go_ret
   exact ⟨_, eR_, by (with_reducible repeat (first | apply Kd.R_alloc | apply Kd.R_drewN | apply Kd.R_drew)); exact HO370.out, bw_ HB, by repeat (first | (with_reducible first | exact HK.out | apply Kept.alloc | apply Kept.drewN | apply Kept.drew) | exact HK.out)⟩}
   {
   rw [if_neg c6] at H
   exact absurd H (by simp)
}}
set_option maxHeartbeats 8000000 in
set_option maxRecDepth 100000 in
theorem impl_varint.callsZ (k : Nat) (P0_ : Nat → Prop) (u9000_ : Value) (l0 : List Int) (a1 : Int) (r : List Int) (w0 w : World) (hB : Below w0.heap.size w0 w) (ho0 : Kd.Z (Kd.int .u8) 5 w w0.heap.size P0_ u9000_ l0) (h : impl_varint.f k l0 a1 = some r) :
 Calls Tryz.prog 95 #[u9000_, .int .i64 a1] w fun e w' => ∃ v0_ : Value, e = .returned (v0_) ∧ Kd.R (Kd.int .u8) 5 w' w0.heap.size (fun k_ => (P0_ k_ ∨ w.heap.size ≤ k_)) v0_ r ∧ Below w0.heap.size w0 w' ∧ Kept w w' (fun k_ => P0_ k_) := by
 have HO0 := Aside0.mk (show Kd.Z (Kd.int .u8) 5 w w0.heap.size (fun k_ => (P0_ k_ ∨ w.heap.size ≤ k_)) u9000_ l0 from Kd.Z_mono ho0 (fun k_ hk => (.inl hk)))
 have HK := Aside0.mk (Kept.refl w (fun k_ => P0_ k_))
 have HW0 := Aside0.mk hB.size
 have HB := Aside0.mk hB
 clear hB
 have H : (impl_varint.l0 k l0 a1) = some r := h
 clear h
 have H' := Aside0.mk H
 clear H
 go_enter Tryz.func95, Tryz.ntmps95
 go_wp2
 go_loopg [0, 1] k (fun kq v0 v1 w' => ∃ (x0_1 : List Int) (x1_1 : Int), v1 = .int .i64 x1_1 ∧ Aside0 (impl_varint.l0 kq x0_1 x1_1 = some r) ∧ Aside0 (kq ≤ k) ∧ Aside0 (Kd.Z (Kd.int .u8) 5 w' w0.heap.size (fun k_ => (P0_ k_ ∨ w.heap.size ≤ k_)) v0 x0_1) ∧ Aside0 (Kept w w' (fun k_ => P0_ k_)) ∧ Aside0 (Below w0.heap.size w0 w'))
 case atStart => exact ⟨(l0), (a1), (by first | rfl | (simp; done) | (simp [*]; done)), H', ⟨Nat.le_refl _⟩, ⟨HO0.out⟩, ⟨by repeat (first | (with_reducible first | exact HK.out | apply Kept.alloc | apply Kept.drewN | apply Kept.drew) | exact HK.out)⟩, ⟨bw_ HB⟩⟩
 case round =>
  clear H'
  try clear p2
  obtain ⟨x0_1, x1_1, rfl, HA, HK1, HO_0, HK, HB⟩ := hrel
  cases gk with
  | zero => exact absurd HA.out (by simp [impl_varint.l0])
  | succ k1 =>
   have H := HA.out
   clear HA
   simp only [impl_varint.l0] at H
   by_cases c3 : x1_1 > 127
   {
   rw [if_pos c3] at H
   have c3b0 : decide (127 < x1_1) = true := decide_eq_true c3
   clear c3
   by_cases c4 : x0_1.length < 140737488355328
   {
   rw [if_pos c4] at H
   have LMc4 := Aside0.mk c4
   clear c4
   obtain ⟨y365, hy365⟩ : ∃ y_ : List Int, y_ = (x0_1 ++ [(Go.bits .or .i64 (Go.bits .and .i64 x1_1 127) 128) % 256]) := ⟨_, rfl⟩
   replace H : (impl_varint.l0 k1 y365 (x1_1 / 128)) = some r := by first | (rw [hy365]; with_reducible exact H) | (have H2_ := (Option.bind_some _ _).symm.trans H; rw [hy365]; with_reducible exact H2_) | (have H2_ := (Option.bind_some _ _).symm.trans H; with_reducible exact H2_) | with_reducible exact H | (rw [hy365]; exact H) | exact H
   have Ny365 := Aside0.mk hy365
   clear hy365
   have H' := Aside0.mk H
   clear H
   go_wp2_with (first | ((with_reducible refine gate_builtin (b := .append) (xs := #[.tmp 7, .tmp 12]) rfl ?_); at_builtin; refine Kd.Z_append (Kd.int .u8) (w0 := w0) w0.heap.size rfl (.tmp 7) (.tmp 12) 81 5 (.int .u8 0) 1 rfl Tryz.underlying81 info5 rfl (by decide) (by omega) u0 x0_1 ((Go.bits .or .i64 (Go.bits .and .i64 x1_1 127) 128) % 256) [.int .u8 ((Go.bits .or .i64 (Go.bits .and .i64 x1_1 127) 128) % 256)] (fun k_ => (P0_ k_ ∨ w.heap.size ≤ k_)) (fun _ => False) rfl rfl ?aP (fun _ hk => hk.elim) ?aF ?aO ?aB ?aS ?aL rfl ?_; (case aP => exact rfl); (case aB => exact (bw_ HB)); (case aF => exact (fun k_ hk => (.inr (Nat.le_trans (by first | exact HK.out.1 | exact (show Kept w _ (fun k_ => P0_ k_) from by repeat (first | (with_reducible first | exact HK.out | apply Kept.alloc | apply Kept.drewN | apply Kept.drew) | exact HK.out)).1) hk)))); (case aO => exact (by (with_reducible repeat (first | apply Kd.R_alloc | apply Kd.R_drewN | apply Kd.R_drew)); exact HO_0.out)); (case aS => exact (below_size (bw_ HB))); (case aL => have := LMc4.out; omega); intro v366 w5 ho hb hg hat; rw [← Ny365.out] at ho; have n0_ := Aside0.mk (hb); have n1_ := Aside0.mk (Kept.of_grown (S := (fun k_ => P0_ k_)) hg (by repeat (first | (with_reducible first | exact HK.out | apply Kept.alloc | apply Kept.drewN | apply Kept.drew) | exact HK.out)) (fun k_ e_ => (Kd.Z_ok HO_0.out k_ e_))); have n2_ := Aside0.mk (ho); clear HB; clear HK; clear HO_0; have HB := n0_; have HK := n1_; have HO367 := n2_; clear n0_ n1_ n2_; clear ho hb hg hat))
   go_roundg k1
   case measure => have := HK1.out; omega
   case rel => exact ⟨(y365), (x1_1 / 128), (by first | rfl | (simp; done) | (simp [*]; done)), H', ⟨by have := HK1.out; omega⟩, ⟨Kd.Z_of (by (with_reducible repeat (first | apply Kd.R_alloc | apply Kd.R_drewN | apply Kd.R_drew)); exact HO367.out)⟩, ⟨by repeat (first | (with_reducible first | exact HK.out | apply Kept.alloc | apply Kept.drewN | apply Kept.drew) | exact HK.out)⟩, ⟨bw_ HB⟩⟩}
   {
   rw [if_neg c4] at H
   exact absurd H (by simp)}}
   {
   rw [if_neg c3] at H
   have c3b0 : decide (127 < x1_1) = false := decide_eq_false c3
   clear c3
   by_cases c6 : x0_1.length < 140737488355328
   {
   rw [if_pos c6] at H
   have LMc6 := Aside0.mk c6
   clear c6
   obtain ⟨y368, hy368⟩ : ∃ y_ : List Int, y_ = (x0_1 ++ [(x1_1) % 256]) := ⟨_, rfl⟩
   replace H : (some y368) = some r := by first | (rw [hy368]; with_reducible exact H) | (have H2_ := (Option.bind_some _ _).symm.trans H; rw [hy368]; with_reducible exact H2_) | (have H2_ := (Option.bind_some _ _).symm.trans H; with_reducible exact H2_) | with_reducible exact H | (rw [hy368]; exact H) | exact H
   have Ny368 := Aside0.mk hy368
   clear hy368
   obtain rfl := Option.some.inj H
   go_wp2_with (first | ((with_reducible refine gate_builtin (b := .append) (xs := #[.tmp 16, .tmp 19]) rfl ?_); at_builtin; refine Kd.Z_append (Kd.int .u8) (w0 := w0) w0.heap.size rfl (.tmp 16) (.tmp 19) 81 5 (.int .u8 0) 1 rfl Tryz.underlying81 info5 rfl (by decide) (by omega) u0 x0_1 ((x1_1) % 256) [.int .u8 ((x1_1) % 256)] (fun k_ => (P0_ k_ ∨ w.heap.size ≤ k_)) (fun _ => False) rfl rfl ?aP (fun _ hk => hk.elim) ?aF ?aO ?aB ?aS ?aL rfl ?_; (case aP => exact rfl); (case aB => exact (bw_ HB)); (case aF => exact (fun k_ hk => (.inr (Nat.le_trans (by first | exact HK.out.1 | exact (show Kept w _ (fun k_ => P0_ k_) from by repeat (first | (with_reducible first | exact HK.out | apply Kept.alloc | apply Kept.drewN | apply Kept.drew) | exact HK.out)).1) hk)))); (case aO => exact (by (with_reducible repeat (first | apply Kd.R_alloc | apply Kd.R_drewN | apply Kd.R_drew)); exact HO_0.out)); (case aS => exact (below_size (bw_ HB))); (case aL => have := LMc6.out; omega); intro v369 w7 ho hb hg hat; rw [← Ny368.out] at ho; have n0_ := Aside0.mk (hb); have n1_ := Aside0.mk (Kept.of_grown (S := (fun k_ => P0_ k_)) hg (by repeat (first | (with_reducible first | exact HK.out | apply Kept.alloc | apply Kept.drewN | apply Kept.drew) | exact HK.out)) (fun k_ e_ => (Kd.Z_ok HO_0.out k_ e_))); have n2_ := Aside0.mk (ho); clear HB; clear HK; clear HO_0; have HB := n0_; have HK := n1_; have HO370 := n2_; clear n0_ n1_ n2_; clear ho hb hg hat))
   go_ret
   exact ⟨_, eR_, by (with_reducible repeat (first | apply Kd.R_alloc | apply Kd.R_drewN | apply Kd.R_drew)); exact HO370.out, bw_ HB, by repeat (first | (with_reducible first | exact HK.out | apply Kept.alloc | apply Kept.drewN | apply Kept.drew) | exact HK.out)⟩}
   {
   rw [if_neg c6] at H
   exact absurd H (by simp)
}}
end Go.Proofs.YtkhhkpjeafknpaaGreatDoor.P
end

section
namespace Go.Proofs.YtkhhkpjeafknpaaGreatDoor.P
open Go.RowKit Go.Proofs.YtkhhkpjeafknpaaGreatDoorW.PrintWords Go.Proofs.YtkhhkpjeafknpaaGreatDoorW.PrintLast Go.Proofs.YtkhhkpjeafknpaaGreatDoorW.PrintMore Go.Proofs.YtkhhkpjeafknpaaGreatDoorM
attribute [local go_sem] max2_int min2_int max_two min_two max_three min_three max_four min_four
set_option linter.unusedVariables false
set_option linter.unusedSimpArgs false
def impl_PackTree.l0 : Nat → List Int → List (S70) → Int → Int → Option (List Int)
 | 0, _, _, _, _ => none
 | k + 1, x3, x15, x16, x17 => if x17 < x16 then (if 0 ≤ x17 then (if x17 < (x15.length : Int) then (if (rd_T70 x15 x17).f3 = true then (if x3.length < 140737488355328 then ((impl_varint.f k (x3 ++ [((((rd_T70 x15 x17).f1) % 256) + 16) % 256]) (((rd_T70 x15 x17).f0).size : Int)).bind fun t383 => (if t383.length + ((rd_T70 x15 x17).f0).size < 140737488355328 then ((impl_varint.f k (t383 ++ bytesOf ((rd_T70 x15 x17).f0)) (((rd_T70 x15 x17).f2).size : Int)).bind fun t389 => (if t389.length + ((rd_T70 x15 x17).f2).size < 140737488355328 then (impl_PackTree.l0 k (t389 ++ bytesOf ((rd_T70 x15 x17).f2)) x15 x16 (wrap64 (x17 + 1))) else (none))) else (none))) else (none)) else (if x3.length < 140737488355328 then ((impl_varint.f k (x3 ++ [((rd_T70 x15 x17).f1) % 256]) (((rd_T70 x15 x17).f0).size : Int)).bind fun t398 => (if t398.length + ((rd_T70 x15 x17).f0).size < 140737488355328 then ((impl_varint.f k (t398 ++ bytesOf ((rd_T70 x15 x17).f0)) (((rd_T70 x15 x17).f2).size : Int)).bind fun t404 => (if t404.length + ((rd_T70 x15 x17).f2).size < 140737488355328 then (impl_PackTree.l0 k (t404 ++ bytesOf ((rd_T70 x15 x17).f2)) x15 x16 (wrap64 (x17 + 1))) else (none))) else (none))) else (none))) else (none)) else (none)) else (some x3)
def impl_PackTree.f (k : Nat) (l0 : List (S70)) : Option (List Int) := (impl_TreeOk.f k l0).bind fun t371 => (if t371 = true then ((impl_varint.f k (([76, 65, 82, 49] : List Int)) (l0.length : Int)).bind fun t375 => (impl_PackTree.l0 k t375 l0 (l0.length : Int) 0)) else (some ([] : List Int)))
theorem impl_PackTree.mono_l : ∀ k, (∀ y0 y1 y2 y3, LeO (impl_PackTree.l0 k y0 y1 y2 y3) (impl_PackTree.l0 (k + 1) y0 y1 y2 y3))
 | 0 => fun _ _ _ _ r h => by simp [impl_PackTree.l0] at h
 | k + 1 => by
  have ih0 := impl_PackTree.mono_l k
  {
  intro y0 y1 y2 y3
  unfold impl_PackTree.l0
  repeat' first
  | (with_reducible exact ih0 _ _ _ _)
  | (with_reducible exact impl_TreeOk.mono _ _)
  | (with_reducible exact impl_varint.mono _ _ _)
  | (with_reducible exact LeO.refl _)
  | (with_reducible exact LeO.none _)
  | (with_reducible refine LeO.ite ?_ ?_)
  | (with_reducible refine LeO.bind ?_ (fun _ => ?_))
  | exact ih0 _ _ _ _
  | exact impl_TreeOk.mono _ _
  | exact impl_varint.mono _ _ _
  | exact LeO.none _
  | refine LeO.ite ?_ ?_
  | refine LeO.bind ?_ (fun _ => ?_)}
theorem impl_PackTree.mono : ∀ a0 k, LeO (impl_PackTree.f k a0) (impl_PackTree.f (k + 1) a0) := by
 intro a0 k
 have ih0 := impl_PackTree.mono_l k
 unfold impl_PackTree.f
 repeat' first
  | (with_reducible exact ih0 _ _ _ _)
  | (with_reducible exact impl_TreeOk.mono _ _)
  | (with_reducible exact impl_varint.mono _ _ _)
  | (with_reducible exact LeO.refl _)
  | (with_reducible exact LeO.none _)
  | (with_reducible refine LeO.ite ?_ ?_)
  | (with_reducible refine LeO.bind ?_ (fun _ => ?_))
  | exact ih0 _ _ _ _
  | exact impl_TreeOk.mono _ _
  | exact impl_varint.mono _ _ _
  | exact LeO.none _
  | refine LeO.ite ?_ ?_
  | refine LeO.bind ?_ (fun _ => ?_)
def impl_PackTree.T10 : Bool × List (List Nat × List Nat) := (true, [([], []), ([], []), ([1], [1]), ([0, 2], [0, 2]), ([], []), ([4], [4]), ([5], [5]), ([3, 6, 3], [3, 6]), ([], []), ([8], [8]), ([7, 9, 7], [7, 9]), ([10, 10, 0, 1, 2, 3, 4, 5, 6, 7, 8, 9, 10], [0, 10])])
def impl_PackTree.B10 : List Nat := [0, 0, 2, 7, 0, 16, 48, 127, 0, 256, 1023, 2047]
theorem impl_PackTree.tab10 : rtab .any (opsOf Tryz.f76 10) = impl_PackTree.T10 := by kernel_rfl
theorem impl_PackTree.bits10 : waitsOk impl_PackTree.T10.2 impl_PackTree.B10 = true := by kernel_rfl
def impl_PackTree.T11 : Bool × List (List Nat × List Nat) := (true, [([], []), ([], []), ([1], [1]), ([2], [2]), ([0, 3], [0, 3]), ([], []), ([5], [5]), ([4, 6, 4], [4, 6]), ([7, 7, 0, 1, 2, 3, 4, 5, 6, 7], [0, 7])])
def impl_PackTree.B11 : List Nat := [0, 0, 2, 6, 15, 0, 32, 127, 255]
theorem impl_PackTree.tab11 : rtab .any (opsOf Tryz.f76 11) = impl_PackTree.T11 := by kernel_rfl
theorem impl_PackTree.bits11 : waitsOk impl_PackTree.T11.2 impl_PackTree.B11 = true := by kernel_rfl
set_option maxHeartbeats 8000000 in
set_option maxRecDepth 100000 in
theorem impl_PackTree.calls (k : Nat) (A0 : Option Addr) (c0 : Nat) (l0 : List (S70)) (r : List Int) (w : World) (hE : EnvW w) (hr0 : Kd.C k70 w A0 l0.length l0) (hc0 : l0.length ≤ c0) (h : impl_PackTree.f k l0 = some r) :
 Calls Tryz.prog 76 #[.slice A0 l0.length c0] w fun e w' => ∃ v0_ : Value, e = .returned (v0_) ∧ Kd.R (Kd.int .u8) 5 w' w.heap.size (fun _ => True) v0_ r ∧ Below w.heap.size w w' := by
 have hu70 := Tryz.underlying70
 have HE := Aside0.mk hE
 clear hE
 have HR0 := Aside0.mk hr0
 have HC0 := Aside0.mk hc0
 clear hr0 hc0
 have HB := Aside0.mk (Below.refl w.heap.size w)
 have H : ((impl_TreeOk.f k l0).bind fun t371 => (if t371 = true then ((impl_varint.f k (([76, 65, 82, 49] : List Int)) (l0.length : Int)).bind fun t375 => (impl_PackTree.l0 k t375 l0 (l0.length : Int) 0)) else (some ([] : List Int)))) = some r := h
 clear h
 replace H := Option.bind_eq_some_iff.mp H
 obtain ⟨t371, A20, H⟩ := H
 have A2 := Aside0.mk A20
 clear A20
 by_cases c3 : t371 = true
 {
 subst c3
 rw [if_pos rfl] at H
 obtain ⟨y372, hy372⟩ : ∃ y_ : List Int, y_ = (([76, 65, 82, 49] : List Int)) := ⟨_, rfl⟩
 replace H : ((impl_varint.f k y372 (l0.length : Int)).bind fun t375 => (impl_PackTree.l0 k t375 l0 (l0.length : Int) 0)) = some r := by first | (rw [hy372]; with_reducible exact H) | (have H2_ := (Option.bind_some _ _).symm.trans H; rw [hy372]; with_reducible exact H2_) | (have H2_ := (Option.bind_some _ _).symm.trans H; with_reducible exact H2_) | with_reducible exact H | (rw [hy372]; exact H) | exact H
 have Ny372 := Aside0.mk hy372
 clear hy372
 replace H := Option.bind_eq_some_iff.mp H
 obtain ⟨t375, A40, H⟩ := H
 have A4 := Aside0.mk A40
 clear A40
 have H' := Aside0.mk H
 clear H
 go_enter Tryz.func76, Tryz.ntmps76
 go_wp2_with (first | ((with_reducible refine gate_callee (f := 63) rfl ?_); refine gL_ (some 8) Tryz.func63 #[.slice A0 l0.length c0] ?_; (with_reducible refine (impl_TreeOk.calls k _ _ l0 true _ ?side1 ?side2 ?side3 A2.out).mono ?_); (case side1 => refine EnvW.below HE.out ?_; repeat (first | (with_reducible first | exact HB.out | apply below_alloc | apply pw_below_drewN | apply below_drew1) | exact HB.out)); (case side2 => repeat (first | exact HR0.out | (with_reducible refine Kd.C_alloc ?_ _) | (with_reducible refine Kd.C_drewN ?_ _) | (with_reducible refine Kd.C_drew ?_))); (case side3 => exact HC0.out); rintro e w5 ⟨rfl, hb⟩; refine ⟨_, rfl, ?_⟩; have n0_ := Aside0.mk (below_step (bw_ HB) hb); clear HB; have HB := n0_; clear n0_; (try clear hb); (try clear hb2); (try clear hk); (try clear hi)) | ((with_reducible refine gate_dst (N := 10) rfl ?_); refine Kd.Z_litc (Kd.int .u8) _ 5 ?hg (N := 10) ?hd (xs := ([76, 65, 82, 49] : List Int)) (inner := [.int .u8 76, .int .u8 65, .int .u8 82, .int .u8 49]) (ok := fun _ => True) (okp := fun _ => True) ?hr ?hp (fun _ hk => hk) trivial (Below.refl _ _) (Nat.le_refl _) (by simp) rfl rfl 81 rfl Tryz.underlying81 Tryz.underlying5 ?hev ?_; (case hev => intro u_; rfl); (case hd => rfl); (case hg => rfl); (case hr => first | (go_simp; done) | (go_simp; rfl)); (case hp => exact (Reps.one (show Kd.M (Kd.int .u8) _ _ _ 76 [.int .u8 76] from rfl) (Reps.one (show Kd.M (Kd.int .u8) _ _ _ 65 [.int .u8 65] from rfl) (Reps.one (show Kd.M (Kd.int .u8) _ _ _ 82 [.int .u8 82] from rfl) (Reps.one (show Kd.M (Kd.int .u8) _ _ _ 49 [.int .u8 49] from rfl) (Reps.none _ _)))))); intro v373 w6 ho7 hb hg_ hnew_; clear hg_ hnew_; (first | rw [← Ny372.out] at ho7 | (simp only [Int.reduceToNat] at ho7; rw [← Ny372.out] at ho7)); have n0_ := Aside0.mk (Kd.Z_lower ho7 (below_size (bw_ HB))); have n1_ := Aside0.mk (below_step (bw_ HB) hb); clear HB; have HO374 := n0_; have HB := n1_; clear n0_ n1_; clear hb ho7; obtain ⟨Ao8, co8, eo8⟩ := Kd.Z_slice HO374.out; subst eo8) | ((with_reducible refine gate_callee (f := 95) rfl ?_); refine gL_ (some 14) Tryz.func95 #[.slice Ao8 y372.length co8, .int .i64 (l0.length : Int)] ?_; (with_reducible refine (impl_varint.callsZ k (fun k_ => some k_ = (.slice Ao8 y372.length co8 : Value).ownBlock) (.slice Ao8 y372.length co8) y372 (l0.length : Int) t375 w _ ?side1 ?side2 A4.out).mono ?_); (case side1 => repeat (first | (with_reducible first | exact HB.out | apply below_alloc | apply pw_below_drewN | apply below_drew1) | exact HB.out)); (case side2 => exact Kd.Z_tight rfl HO374.out); rintro e w9 ⟨v376, rfl, ho0, hb, hkp⟩; refine ⟨_, rfl, ?_⟩; have n0_ := Aside0.mk (Kd.R_mono (ok' := fun k_ => True) ho0 (fun k_ hk_ => trivial)); have n1_ := Aside0.mk (hb); clear HB; clear HO374; have HO377 := n0_; have HB := n1_; clear n0_ n1_; (try clear hb); (try clear hkp); (try clear ho0)))
 go_loopg [3, 17] k (fun kq v3 v17 w' => ∃ (x3_1 : List Int) (x17_1 : Int), v17 = .int .i64 x17_1 ∧ Aside0 (impl_PackTree.l0 kq x3_1 l0 (l0.length : Int) x17_1 = some r) ∧ Aside0 (kq ≤ k) ∧ Aside0 (Kd.R (Kd.int .u8) 5 w' w.heap.size (fun _ => True) v3 x3_1) ∧ Aside0 (Below w.heap.size w w'))
 case atStart => exact ⟨(t375), (0), (by first | rfl | (simp; done) | (simp [*]; done)), H', ⟨Nat.le_refl _⟩, ⟨by (with_reducible repeat (first | apply Kd.R_alloc | apply Kd.R_drewN | apply Kd.R_drew)); exact HO377.out⟩, ⟨bw_ HB⟩⟩
 case round =>
  clear H'
  try clear p2
  try clear c3
  try clear c6
  try clear c7
  try clear c9
  obtain ⟨x3_1, x17_1, rfl, HA, HK1, HO_3, HB⟩ := hrel
  cases gk with
  | zero => exact absurd HA.out (by simp [impl_PackTree.l0])
  | succ k1 =>
   have H := HA.out
   clear HA
   simp only [impl_PackTree.l0] at H
   by_cases c10 : x17_1 < (l0.length : Int)
   {
   rw [if_pos c10] at H
   have c10b0 : decide (x17_1 < (l0.length : Int)) = true := decide_eq_true c10
   clear c10
   by_cases c11 : 0 ≤ x17_1
   {
   rw [if_pos c11] at H
   have c11b0 : decide (0 ≤ x17_1) = true := decide_eq_true c11
   clear c11
   by_cases c12 : x17_1 < (l0.length : Int)
   {
   rw [if_pos c12] at H
   have c12b0 : decide (x17_1 < (l0.length : Int)) = true := decide_eq_true c12
   clear c12
   obtain ⟨bq13, hbq13⟩ : ∃ b_ : Bool, b_ = ((rd_T70 l0 x17_1).f3) := ⟨_, rfl⟩
   replace H : (if bq13 = true then (if x3_1.length < 140737488355328 then ((impl_varint.f k1 (x3_1 ++ [((((rd_T70 l0 x17_1).f1) % 256) + 16) % 256]) (((rd_T70 l0 x17_1).f0).size : Int)).bind fun t383 => (if t383.length + ((rd_T70 l0 x17_1).f0).size < 140737488355328 then ((impl_varint.f k1 (t383 ++ bytesOf ((rd_T70 l0 x17_1).f0)) (((rd_T70 l0 x17_1).f2).size : Int)).bind fun t389 => (if t389.length + ((rd_T70 l0 x17_1).f2).size < 140737488355328 then (impl_PackTree.l0 k1 (t389 ++ bytesOf ((rd_T70 l0 x17_1).f2)) l0 (l0.length : Int) (wrap64 (x17_1 + 1))) else (none))) else (none))) else (none)) else (if x3_1.length < 140737488355328 then ((impl_varint.f k1 (x3_1 ++ [((rd_T70 l0 x17_1).f1) % 256]) (((rd_T70 l0 x17_1).f0).size : Int)).bind fun t398 => (if t398.length + ((rd_T70 l0 x17_1).f0).size < 140737488355328 then ((impl_varint.f k1 (t398 ++ bytesOf ((rd_T70 l0 x17_1).f0)) (((rd_T70 l0 x17_1).f2).size : Int)).bind fun t404 => (if t404.length + ((rd_T70 l0 x17_1).f2).size < 140737488355328 then (impl_PackTree.l0 k1 (t404 ++ bytesOf ((rd_T70 l0 x17_1).f2)) l0 (l0.length : Int) (wrap64 (x17_1 + 1))) else (none))) else (none))) else (none))) = some r := by rw [← hbq13] at H; exact H
   have Nbq13 := Aside0.mk hbq13
   clear hbq13
   by_cases c14 : bq13 = true
   {
   subst c14
   rw [if_pos rfl] at H
   by_cases c15 : x3_1.length < 140737488355328
   {
   rw [if_pos c15] at H
   have LMc15 := Aside0.mk c15
   clear c15
   obtain ⟨y380, hy380⟩ : ∃ y_ : List Int, y_ = (x3_1 ++ [((((rd_T70 l0 x17_1).f1) % 256) + 16) % 256]) := ⟨_, rfl⟩
   replace H : ((impl_varint.f k1 y380 (((rd_T70 l0 x17_1).f0).size : Int)).bind fun t383 => (if t383.length + ((rd_T70 l0 x17_1).f0).size < 140737488355328 then ((impl_varint.f k1 (t383 ++ bytesOf ((rd_T70 l0 x17_1).f0)) (((rd_T70 l0 x17_1).f2).size : Int)).bind fun t389 => (if t389.length + ((rd_T70 l0 x17_1).f2).size < 140737488355328 then (impl_PackTree.l0 k1 (t389 ++ bytesOf ((rd_T70 l0 x17_1).f2)) l0 (l0.length : Int) (wrap64 (x17_1 + 1))) else (none))) else (none))) = some r := by first | (rw [hy380]; with_reducible exact H) | (have H2_ := (Option.bind_some _ _).symm.trans H; rw [hy380]; with_reducible exact H2_) | (have H2_ := (Option.bind_some _ _).symm.trans H; with_reducible exact H2_) | with_reducible exact H | (rw [hy380]; exact H) | exact H
   have Ny380 := Aside0.mk hy380
   clear hy380
   replace H := Option.bind_eq_some_iff.mp H
   obtain ⟨t383, A160, H⟩ := H
   have A16 := Aside0.mk A160
   clear A160
   by_cases c17 : t383.length + ((rd_T70 l0 x17_1).f0).size < 140737488355328
   {
   rw [if_pos c17] at H
   have LMc17 := Aside0.mk c17
   clear c17
   obtain ⟨y386, hy386⟩ : ∃ y_ : List Int, y_ = (t383 ++ bytesOf ((rd_T70 l0 x17_1).f0)) := ⟨_, rfl⟩
   replace H : ((impl_varint.f k1 y386 (((rd_T70 l0 x17_1).f2).size : Int)).bind fun t389 => (if t389.length + ((rd_T70 l0 x17_1).f2).size < 140737488355328 then (impl_PackTree.l0 k1 (t389 ++ bytesOf ((rd_T70 l0 x17_1).f2)) l0 (l0.length : Int) (wrap64 (x17_1 + 1))) else (none))) = some r := by first | (rw [hy386]; with_reducible exact H) | (have H2_ := (Option.bind_some _ _).symm.trans H; rw [hy386]; with_reducible exact H2_) | (have H2_ := (Option.bind_some _ _).symm.trans H; with_reducible exact H2_) | with_reducible exact H | (rw [hy386]; exact H) | exact H
   have Ny386 := Aside0.mk hy386
   clear hy386
   replace H := Option.bind_eq_some_iff.mp H
   obtain ⟨t389, A180, H⟩ := H
   have A18 := Aside0.mk A180
   clear A180
   by_cases c19 : t389.length + ((rd_T70 l0 x17_1).f2).size < 140737488355328
   {
   rw [if_pos c19] at H
   have LMc19 := Aside0.mk c19
   clear c19
   obtain ⟨y392, hy392⟩ : ∃ y_ : List Int, y_ = (t389 ++ bytesOf ((rd_T70 l0 x17_1).f2)) := ⟨_, rfl⟩
   replace H : (impl_PackTree.l0 k1 y392 l0 (l0.length : Int) (wrap64 (x17_1 + 1))) = some r := by first | (rw [hy392]; with_reducible exact H) | (have H2_ := (Option.bind_some _ _).symm.trans H; rw [hy392]; with_reducible exact H2_) | (have H2_ := (Option.bind_some _ _).symm.trans H; with_reducible exact H2_) | with_reducible exact H | (rw [hy392]; exact H) | exact H
   have Ny392 := Aside0.mk hy392
   clear hy392
   have H' := Aside0.mk H
   clear H
   have p378 : 0 ≤ (x17_1 : Int) := dA_
   have q378 : x17_1 < (l0.length : Int) := dA_
   obtain ⟨ad378, e378, hx378_0, hx378_1, hx378_2, hx378_3⟩ := at_T70 HR0.out x17_1 p378 q378
   (try rw [← Nbq13.out] at hx378_3)
   cases e378
   replace hx378_0 := hX_ HB hx378_0
   replace hx378_1 := hX_ HB hx378_1
   replace hx378_2 := hX_ HB hx378_2
   replace hx378_3 := hX_ HB hx378_3
   replace p378 := eq_true p378
   replace q378 := eq_true q378
   try go_wp2_with (first | ((with_reducible refine gate_dst (N := 5) rfl ?_); refine box_event ?hg (N := 5) ?hd (cs := #[.string (⟨#[]⟩ : ByteArray), .int .i64 0, .string (⟨#[]⟩ : ByteArray), .bool false]) (t := 70) ?hr ?_; (case hd => rfl); (case hg => rfl); (case hr => first | (go_simp; done) | (go_simp; rfl)); intro gb379 hg w20 hbox hb; have n0_ := Aside0.mk (Kd.R_below (by (with_reducible repeat (first | apply Kd.R_alloc | apply Kd.R_drewN | apply Kd.R_drew)); exact HO_3.out) hb); have n1_ := Aside0.mk (below_step (bw_ HB) hb); have n2_ := Aside0.mk (hbox); have n3_ := Aside0.mk ((by rw [hg]; exact (below_size (bw_ HB)) : w.heap.size ≤ gb379)); have n4_ := Aside0.mk ((by rw [hg]; exact (below_size (bw_ HB)) : w.heap.size ≤ gb379)); clear HO_3; clear HB; have HO_3 := n0_; have HB := n1_; have BK379 := n2_; have GW379 := n3_; have GE379 := n4_; clear n0_ n1_ n2_ n3_ n4_; clear hb hbox hg; have hcz21_0 : w20.cell? ⟨gb379, 0, none⟩ = some (.string (⟨#[]⟩ : ByteArray)) := (blk_cell BK379.out 0).trans rfl; have hcz21_1 : w20.cell? ⟨gb379, 1, none⟩ = some (.int .i64 0) := (blk_cell BK379.out 1).trans rfl; have hcz21_2 : w20.cell? ⟨gb379, 2, none⟩ = some (.string (⟨#[]⟩ : ByteArray)) := (blk_cell BK379.out 2).trans rfl; have hcz21_3 : w20.cell? ⟨gb379, 3, none⟩ = some (.bool false) := (blk_cell BK379.out 3).trans rfl; have hfz21_0 := blk_frozen BK379.out 0; have hfz21_1 := blk_frozen BK379.out 1; have hfz21_2 := blk_frozen BK379.out 2; have hfz21_3 := blk_frozen BK379.out 3))
   have n0_ : Aside0 (Kd.R (Kd.int .u8) 5 ((((w20.setCell ⟨gb379, 0, none⟩ (.string ((rd_T70 l0 x17_1).f0))).setCell ⟨gb379, 1, none⟩ (.int .i64 ((rd_T70 l0 x17_1).f1))).setCell ⟨gb379, 2, none⟩ (.string ((rd_T70 l0 x17_1).f2))).setCell ⟨gb379, 3, none⟩ (.bool true)) w.heap.size (fun _ => True) u3 x3_1) := ⟨by (with_reducible repeat (first | apply Kd.R_alloc | apply Kd.R_drewN | apply Kd.R_drew)); exact Kd.R_mono (Kd.R_far (p := ⟨gb379, 3, none⟩) (Kd.R_far (p := ⟨gb379, 2, none⟩) (Kd.R_far (p := ⟨gb379, 1, none⟩) (Kd.R_far (p := ⟨gb379, 0, none⟩) (Kd.R_types HO_3.out BK379.out (by decide)) (fun _ hk => hk.2) (.string ((rd_T70 l0 x17_1).f0))) (fun _ hk => hk.2) (.int .i64 ((rd_T70 l0 x17_1).f1))) (fun _ hk => hk.2) (.string ((rd_T70 l0 x17_1).f2))) (fun _ hk => hk.2) (.bool true)) (fun _ hk => trivial)⟩
   have n1_ : Aside0 (((((w20.setCell ⟨gb379, 0, none⟩ (.string ((rd_T70 l0 x17_1).f0))).setCell ⟨gb379, 1, none⟩ (.int .i64 ((rd_T70 l0 x17_1).f1))).setCell ⟨gb379, 2, none⟩ (.string ((rd_T70 l0 x17_1).f2))).setCell ⟨gb379, 3, none⟩ (.bool true)).heap[gb379]? = some (.cells #[.string ((rd_T70 l0 x17_1).f0), .int .i64 ((rd_T70 l0 x17_1).f1), .string ((rd_T70 l0 x17_1).f2), .bool true] 70 (0, 0))) := ⟨by (with_reducible repeat (first | refine blk_drewN ?_ _ | refine blk_drew ?_ | refine blk_alloc ?_ _)); refine blk_put (cs := #[.string ((rd_T70 l0 x17_1).f0), .int .i64 ((rd_T70 l0 x17_1).f1), .string ((rd_T70 l0 x17_1).f2), .bool false]) ?_ 3 _ rfl; (with_reducible repeat (first | refine blk_drewN ?_ _ | refine blk_drew ?_ | refine blk_alloc ?_ _)); refine blk_put (cs := #[.string ((rd_T70 l0 x17_1).f0), .int .i64 ((rd_T70 l0 x17_1).f1), .string (⟨#[]⟩ : ByteArray), .bool false]) ?_ 2 _ rfl; (with_reducible repeat (first | refine blk_drewN ?_ _ | refine blk_drew ?_ | refine blk_alloc ?_ _)); refine blk_put (cs := #[.string ((rd_T70 l0 x17_1).f0), .int .i64 0, .string (⟨#[]⟩ : ByteArray), .bool false]) ?_ 1 _ rfl; (with_reducible repeat (first | refine blk_drewN ?_ _ | refine blk_drew ?_ | refine blk_alloc ?_ _)); refine blk_put (cs := #[.string (⟨#[]⟩ : ByteArray), .int .i64 0, .string (⟨#[]⟩ : ByteArray), .bool false]) ?_ 0 _ rfl; (with_reducible repeat (first | refine blk_drewN ?_ _ | refine blk_drew ?_ | refine blk_alloc ?_ _)); exact BK379.out⟩
   have n2_ : Aside0 (Below w.heap.size w ((((w20.setCell ⟨gb379, 0, none⟩ (.string ((rd_T70 l0 x17_1).f0))).setCell ⟨gb379, 1, none⟩ (.int .i64 ((rd_T70 l0 x17_1).f1))).setCell ⟨gb379, 2, none⟩ (.string ((rd_T70 l0 x17_1).f2))).setCell ⟨gb379, 3, none⟩ (.bool true))) := ⟨bw1_ HB GE379⟩
   (try rw [← Nbq13.out])
   (try clear HO_3)
   (try clear BK379)
   (try clear HB)
   generalize ((((w20.setCell ⟨gb379, 0, none⟩ (.string ((rd_T70 l0 x17_1).f0))).setCell ⟨gb379, 1, none⟩ (.int .i64 ((rd_T70 l0 x17_1).f1))).setCell ⟨gb379, 2, none⟩ (.string ((rd_T70 l0 x17_1).f2))).setCell ⟨gb379, 3, none⟩ (.bool true)) = w22 at n0_ n1_ n2_ ⊢
   have HO_3 := n0_
   have BK379 := n1_
   have HB := n2_
   clear n0_ n1_ n2_
   have n0_ := Aside0.mk (Kd.R_drew HO_3.out)
   have n1_ := Aside0.mk (blk_drew BK379.out)
   have n2_ := Aside0.mk (below_drew1 HB.out)
   clear HO_3
   clear BK379
   clear HB
   have HO_3 := n0_
   have BK379 := n1_
   have HB := n2_
   clear n0_ n1_ n2_
   refine start_ (n := 12) (S := fun w' => w'.cell? ⟨gb379, 0, none⟩ = some (.string ((rd_T70 l0 x17_1).f0)) ∧ w'.cell? ⟨gb379, 1, none⟩ = some (.int .i64 ((rd_T70 l0 x17_1).f1)) ∧ w'.cell? ⟨gb379, 2, none⟩ = some (.string ((rd_T70 l0 x17_1).f2)) ∧ w'.cell? ⟨gb379, 3, none⟩ = some (.bool true)) (ds := []) (bs_ 12 0) (by kernel_rfl) rfl (by kernel_rfl) ⟨(blk_cell BK379.out 0).trans rfl, (blk_cell BK379.out 1).trans rfl, (blk_cell BK379.out 2).trans rfl, (blk_cell BK379.out 3).trans rfl⟩ (fun hHeld => ?_); refine with_tabW impl_PackTree.tab10 impl_PackTree.bits10 (fun HT_ HW_ => ?_)
   generalize w22.drew = w23 at HO_3 BK379 HB hHeld ⊢
   refine pS_ 0 ?_
   refine pS_ 1 ?_
   refine pS_ 4 ?_
   refine pS_ 8 ?_
   refine t4_ 5 hHeld ?_
   refine pS_ 6 ?_
   refine t4_ 9 hHeld ?_
   refine oS_ 2 (fun K hK => ?_)
   refine value_ (w1 := ?_) (v := ?_) (by rfl) rfl ?_ ?_
   rotate_left 2
   {
   go_simp
   constructor
   {
   rfl}
   {
   rfl}}
   refine hK.out _ _ ⟨(blk_cell (blk_alloc BK379.out _) 0).trans rfl, (blk_cell (blk_alloc BK379.out _) 1).trans rfl, (blk_cell (blk_alloc BK379.out _) 2).trans rfl, (blk_cell (blk_alloc BK379.out _) 3).trans rfl⟩ (fun hHeld => ?_)
   clear hK K
   refine nS_ 30 ?_
   refine oS_ 3 (fun K hK => ?_)
   refine Kd.R_append_step (Kd.int .u8) (w0 := w) w.heap.size (by rfl) (.tmp 28) (.tmp 30) 81 5 (.int .u8 0) 1 rfl Tryz.underlying81 info5 rfl (by decide) (by omega) u3 x3_1 ((((rd_T70 l0 x17_1).f1) + 16) % 256) [.int .u8 ((((rd_T70 l0 x17_1).f1) + 16) % 256)] (fun _ => True) (fun _ => False) rfl rfl ?aP (fun _ hk => hk.elim) ?aF ?aO ?aB ?aS ?aL ?_
   (case aP => exact rfl)
   (case aB => exact (bw1_ HB GE379))
   (case aF => exact (fun _ _ => trivial))
   (case aO => exact (by (with_reducible repeat (first | apply Kd.R_alloc | apply Kd.R_drewN | apply Kd.R_drew)); exact HO_3.out))
   (case aS => exact (below_size (bw1_ HB GE379)))
   (case aL => have := LMc15.out; omega)
   intro v381 w24 ho hb hg hat
   (try simp only [Int.emod_add_emod] at Ny380)
   rw [← Ny380.out] at ho
   have n0_ := Aside0.mk (blk_grown (g := gb379) (o := .cells #[.string ((rd_T70 l0 x17_1).f0), .int .i64 ((rd_T70 l0 x17_1).f1), .string ((rd_T70 l0 x17_1).f2), .bool true] 70 (0, 0)) (by (with_reducible repeat (first | refine blk_drewN ?_ _ | refine blk_drew ?_ | refine blk_alloc ?_ _)); exact BK379.out) hg (Kd.R_ne HO_3.out BK379.out (by decide)))
   have n1_ := Aside0.mk (hb)
   have n2_ := Aside0.mk (ho)
   clear BK379
   clear HB
   clear HO_3
   have BK379 := n0_
   have HB := n1_
   have HO382 := n2_
   clear n0_ n1_ n2_
   clear ho hb hg hat
   obtain ⟨Ao25, co25, eo25⟩ := Kd.R_slice HO382.out
   (first | subst eo25 | (injection eo25 with f1_ f2_ f3_; have f4_ := f1_.symm; have f5_ := f3_.symm; clear f1_ f2_ f3_; subst f4_; subst f5_))
   refine hK.out _ _ ⟨(blk_cell BK379.out 0).trans rfl, (blk_cell BK379.out 1).trans rfl, (blk_cell BK379.out 2).trans rfl, (blk_cell BK379.out 3).trans rfl⟩ (fun hHeld => ?_)
   clear hK K
   refine nS_ 31 ?_
   refine oS_ 7 (fun K hK => ?_)
   refine gS_ Tryz.func95 #[.slice Ao25 y380.length co25, .int .i64 (((rd_T70 l0 x17_1).f0).size : Int)] ?_
   with_reducible refine (impl_varint.calls k1 (fun k_ => some k_ = (.slice Ao25 y380.length co25 : Value).ownBlock) (.slice Ao25 y380.length co25) y380 (((rd_T70 l0 x17_1).f0).size : Int) t383 w _ ?side1 ?side2 A16.out).mono ?_
   (case side1 => repeat (first | (with_reducible first | exact HB.out | apply below_alloc | apply pw_below_drewN | apply below_drew1 | refine below_set ?_ GE379.out) | exact HB.out))
   (case side2 => exact Kd.R_tight rfl HO382.out)
   rintro e w26 ⟨v384, rfl, ho0, hb, hkp⟩
   refine ⟨_, rfl, ?_⟩
   have n0_ := Aside0.mk (blk_kept (by (with_reducible repeat (first | refine blk_drewN ?_ _ | refine blk_drew ?_ | refine blk_alloc ?_ _)); exact BK379.out) hkp (fun hs_ => (fun e_ => (Kd.R_ne HO382.out BK379.out (by decide)) e_) hs_))
   have n1_ := Aside0.mk (Kd.R_mono (ok' := fun k_ => True) ho0 (fun k_ hk_ => trivial))
   have n2_ := Aside0.mk (hb)
   clear BK379
   clear HB
   clear HO382
   have BK379 := n0_
   have HO385 := n1_
   have HB := n2_
   clear n0_ n1_ n2_
   (try clear hb)
   (try clear hkp)
   (try clear ho0)
   refine hK.out _ _ ⟨(blk_cell BK379.out 0).trans rfl, (blk_cell BK379.out 1).trans rfl, (blk_cell BK379.out 2).trans rfl, (blk_cell BK379.out 3).trans rfl⟩ (fun hHeld => ?_)
   clear hK K
   refine nS_ 35 ?_
   refine oS_ 10 (fun K hK => ?_)
   refine print_append_str_step (w0 := w) w.heap.size (by rfl) (.tmp 35) _ 81 9 5 rfl Tryz.underlying81 Tryz.underlying9 info5 v384 t383 ((rd_T70 l0 x17_1).f0) rfl rfl ?aO ?aB ?aS ?aL ?_
   (case aB => exact (bw1_ HB GE379))
   (case aO => exact (Kd.own_of_R (by (with_reducible repeat (first | apply Kd.R_alloc | apply Kd.R_drewN | apply Kd.R_drew)); exact HO385.out)))
   (case aS => exact (below_size (bw1_ HB GE379)))
   (case aL => have := LMc17.out; omega)
   intro v387 w27 ho0 hb hg
   have ho := Kd.R_of_own (h1 := fun _ => rfl) (ok := fun _ => True) ho0 (fun _ _ => trivial)
   clear ho0
   have hat := True.intro
   rw [← Ny386.out] at ho
   change Kd.R (Kd.int .u8) 5 w27 w.heap.size (fun _ => True) v387 y386 at ho
   have n0_ := Aside0.mk (blk_grown (g := gb379) (o := .cells #[.string ((rd_T70 l0 x17_1).f0), .int .i64 ((rd_T70 l0 x17_1).f1), .string ((rd_T70 l0 x17_1).f2), .bool true] 70 (0, 0)) (by (with_reducible repeat (first | refine blk_drewN ?_ _ | refine blk_drew ?_ | refine blk_alloc ?_ _)); exact BK379.out) hg (Kd.R_ne HO385.out BK379.out (by decide)))
   have n1_ := Aside0.mk (hb)
   have n2_ := Aside0.mk (ho)
   clear BK379
   clear HB
   clear HO385
   have BK379 := n0_
   have HB := n1_
   have HO388 := n2_
   clear n0_ n1_ n2_
   clear ho hb hg hat
   refine hK.out _ _ ⟨(blk_cell BK379.out 0).trans rfl, (blk_cell BK379.out 1).trans rfl, (blk_cell BK379.out 2).trans rfl, (blk_cell BK379.out 3).trans rfl⟩ (fun hHeld => ?_)
   clear hK K
   refine nS_ 38 ?_
   refine pS_ 11 ?_
   refine done_ (done_of HT_.out (by kernel_rfl)) ?_
   try go_wp2
   have n0_ := Aside0.mk (Kd.R_drew HO388.out)
   have n1_ := Aside0.mk (blk_drew BK379.out)
   have n2_ := Aside0.mk (below_drew1 HB.out)
   clear HO388
   clear BK379
   clear HB
   have HO388 := n0_
   have BK379 := n1_
   have HB := n2_
   clear n0_ n1_ n2_
   obtain ⟨Ao29, co29, eo29⟩ := Kd.R_slice HO388.out
   (first | subst eo29 | (injection eo29 with f1_ f2_ f3_; have f4_ := f1_.symm; have f5_ := f3_.symm; clear f1_ f2_ f3_; subst f4_; subst f5_))
   refine start_ (n := 9) (S := fun w' => w'.cell? ⟨gb379, 0, none⟩ = some (.string ((rd_T70 l0 x17_1).f0)) ∧ w'.cell? ⟨gb379, 1, none⟩ = some (.int .i64 ((rd_T70 l0 x17_1).f1)) ∧ w'.cell? ⟨gb379, 2, none⟩ = some (.string ((rd_T70 l0 x17_1).f2)) ∧ w'.cell? ⟨gb379, 3, none⟩ = some (.bool true)) (ds := []) (bs_ 9 0) (by kernel_rfl) rfl (by kernel_rfl) ⟨(blk_cell BK379.out 0).trans rfl, (blk_cell BK379.out 1).trans rfl, (blk_cell BK379.out 2).trans rfl, (blk_cell BK379.out 3).trans rfl⟩ (fun hHeld => ?_); refine with_tabW impl_PackTree.tab11 impl_PackTree.bits11 (fun HT_ HW_ => ?_)
   generalize w27.drew = w28 at HO388 BK379 HB hHeld ⊢
   refine pS_ 0 ?_
   refine pS_ 1 ?_
   refine pS_ 5 ?_
   refine t4_ 2 hHeld ?_
   refine pS_ 3 ?_
   refine t4_ 6 hHeld ?_
   refine oS_ 4 (fun K hK => ?_)
   refine gS_ Tryz.func95 #[.slice Ao29 y386.length co29, .int .i64 (((rd_T70 l0 x17_1).f2).size : Int)] ?_
   with_reducible refine (impl_varint.calls k1 (fun k_ => some k_ = (.slice Ao29 y386.length co29 : Value).ownBlock) (.slice Ao29 y386.length co29) y386 (((rd_T70 l0 x17_1).f2).size : Int) t389 w _ ?side1 ?side2 A18.out).mono ?_
   (case side1 => repeat (first | (with_reducible first | exact HB.out | apply below_alloc | apply pw_below_drewN | apply below_drew1 | refine below_set ?_ GE379.out) | exact HB.out))
   (case side2 => exact Kd.R_tight rfl HO388.out)
   rintro e w30 ⟨v390, rfl, ho0, hb, hkp⟩
   refine ⟨_, rfl, ?_⟩
   have n0_ := Aside0.mk (blk_kept (by (with_reducible repeat (first | refine blk_drewN ?_ _ | refine blk_drew ?_ | refine blk_alloc ?_ _)); exact BK379.out) hkp (fun hs_ => (fun e_ => (Kd.R_ne HO388.out BK379.out (by decide)) e_) hs_))
   have n1_ := Aside0.mk (Kd.R_mono (ok' := fun k_ => True) ho0 (fun k_ hk_ => trivial))
   have n2_ := Aside0.mk (hb)
   clear BK379
   clear HB
   clear HO388
   have BK379 := n0_
   have HO391 := n1_
   have HB := n2_
   clear n0_ n1_ n2_
   (try clear hb)
   (try clear hkp)
   (try clear ho0)
   refine hK.out _ _ ⟨(blk_cell BK379.out 0).trans rfl, (blk_cell BK379.out 1).trans rfl, (blk_cell BK379.out 2).trans rfl, (blk_cell BK379.out 3).trans rfl⟩ (fun hHeld => ?_)
   clear hK K
   refine nS_ 43 ?_
   refine oS_ 7 (fun K hK => ?_)
   refine print_append_str_step (w0 := w) w.heap.size (by rfl) (.tmp 43) _ 81 9 5 rfl Tryz.underlying81 Tryz.underlying9 info5 v390 t389 ((rd_T70 l0 x17_1).f2) rfl rfl ?aO ?aB ?aS ?aL ?_
   (case aB => exact (bw1_ HB GE379))
   (case aO => exact (Kd.own_of_R (by (with_reducible repeat (first | apply Kd.R_alloc | apply Kd.R_drewN | apply Kd.R_drew)); exact HO391.out)))
   (case aS => exact (below_size (bw1_ HB GE379)))
   (case aL => have := LMc19.out; omega)
   intro v393 w31 ho0 hb hg
   have ho := Kd.R_of_own (h1 := fun _ => rfl) (ok := fun _ => True) ho0 (fun _ _ => trivial)
   clear ho0
   have hat := True.intro
   rw [← Ny392.out] at ho
   change Kd.R (Kd.int .u8) 5 w31 w.heap.size (fun _ => True) v393 y392 at ho
   have n0_ := Aside0.mk (blk_grown (g := gb379) (o := .cells #[.string ((rd_T70 l0 x17_1).f0), .int .i64 ((rd_T70 l0 x17_1).f1), .string ((rd_T70 l0 x17_1).f2), .bool true] 70 (0, 0)) (by (with_reducible repeat (first | refine blk_drewN ?_ _ | refine blk_drew ?_ | refine blk_alloc ?_ _)); exact BK379.out) hg (Kd.R_ne HO391.out BK379.out (by decide)))
   have n1_ := Aside0.mk (hb)
   have n2_ := Aside0.mk (ho)
   clear BK379
   clear HB
   clear HO391
   have BK379 := n0_
   have HB := n1_
   have HO394 := n2_
   clear n0_ n1_ n2_
   clear ho hb hg hat
   refine hK.out _ _ ⟨(blk_cell BK379.out 0).trans rfl, (blk_cell BK379.out 1).trans rfl, (blk_cell BK379.out 2).trans rfl, (blk_cell BK379.out 3).trans rfl⟩ (fun hHeld => ?_)
   clear hK K
   refine nS_ 46 ?_
   refine pS_ 8 ?_
   refine done_ (done_of HT_.out (by kernel_rfl)) ?_
   try go_wp2
   go_roundg k1
   case measure => have := HK1.out; omega
   case rel => exact ⟨(y392), (wrap64 (x17_1 + 1)), (by first | rfl | (simp; done) | (simp [*]; done)), H', ⟨by have := HK1.out; omega⟩, ⟨by (with_reducible repeat (first | apply Kd.R_alloc | apply Kd.R_drewN | apply Kd.R_drew)); exact HO394.out⟩, ⟨bw1_ HB GE379⟩⟩}
   {
   rw [if_neg c19] at H
   exact absurd H (by simp)}}
   {
   rw [if_neg c17] at H
   exact absurd H (by simp)}}
   {
   rw [if_neg c15] at H
   exact absurd H (by simp)}}
   {
   replace c14 := Bool.eq_false_iff.mpr c14
   subst c14
   rw [if_neg (show ¬ (false = true) by decide)] at H
   by_cases c32 : x3_1.length < 140737488355328
   {
   rw [if_pos c32] at H
   have LMc32 := Aside0.mk c32
   clear c32
   obtain ⟨y395, hy395⟩ : ∃ y_ : List Int, y_ = (x3_1 ++ [((rd_T70 l0 x17_1).f1) % 256]) := ⟨_, rfl⟩
   replace H : ((impl_varint.f k1 y395 (((rd_T70 l0 x17_1).f0).size : Int)).bind fun t398 => (if t398.length + ((rd_T70 l0 x17_1).f0).size < 140737488355328 then ((impl_varint.f k1 (t398 ++ bytesOf ((rd_T70 l0 x17_1).f0)) (((rd_T70 l0 x17_1).f2).size : Int)).bind fun t404 => (if t404.length + ((rd_T70 l0 x17_1).f2).size < 140737488355328 then (impl_PackTree.l0 k1 (t404 ++ bytesOf ((rd_T70 l0 x17_1).f2)) l0 (l0.length : Int) (wrap64 (x17_1 + 1))) else (none))) else (none))) = some r := by first | (rw [hy395]; with_reducible exact H) | (have H2_ := (Option.bind_some _ _).symm.trans H; rw [hy395]; with_reducible exact H2_) | (have H2_ := (Option.bind_some _ _).symm.trans H; with_reducible exact H2_) | with_reducible exact H | (rw [hy395]; exact H) | exact H
   have Ny395 := Aside0.mk hy395
   clear hy395
   replace H := Option.bind_eq_some_iff.mp H
   obtain ⟨t398, A330, H⟩ := H
   have A33 := Aside0.mk A330
   clear A330
   by_cases c34 : t398.length + ((rd_T70 l0 x17_1).f0).size < 140737488355328
   {
   rw [if_pos c34] at H
   have LMc34 := Aside0.mk c34
   clear c34
   obtain ⟨y401, hy401⟩ : ∃ y_ : List Int, y_ = (t398 ++ bytesOf ((rd_T70 l0 x17_1).f0)) := ⟨_, rfl⟩
   replace H : ((impl_varint.f k1 y401 (((rd_T70 l0 x17_1).f2).size : Int)).bind fun t404 => (if t404.length + ((rd_T70 l0 x17_1).f2).size < 140737488355328 then (impl_PackTree.l0 k1 (t404 ++ bytesOf ((rd_T70 l0 x17_1).f2)) l0 (l0.length : Int) (wrap64 (x17_1 + 1))) else (none))) = some r := by first | (rw [hy401]; with_reducible exact H) | (have H2_ := (Option.bind_some _ _).symm.trans H; rw [hy401]; with_reducible exact H2_) | (have H2_ := (Option.bind_some _ _).symm.trans H; with_reducible exact H2_) | with_reducible exact H | (rw [hy401]; exact H) | exact H
   have Ny401 := Aside0.mk hy401
   clear hy401
   replace H := Option.bind_eq_some_iff.mp H
   obtain ⟨t404, A350, H⟩ := H
   have A35 := Aside0.mk A350
   clear A350
   by_cases c36 : t404.length + ((rd_T70 l0 x17_1).f2).size < 140737488355328
   {
   rw [if_pos c36] at H
   have LMc36 := Aside0.mk c36
   clear c36
   obtain ⟨y407, hy407⟩ : ∃ y_ : List Int, y_ = (t404 ++ bytesOf ((rd_T70 l0 x17_1).f2)) := ⟨_, rfl⟩
   replace H : (impl_PackTree.l0 k1 y407 l0 (l0.length : Int) (wrap64 (x17_1 + 1))) = some r := by first | (rw [hy407]; with_reducible exact H) | (have H2_ := (Option.bind_some _ _).symm.trans H; rw [hy407]; with_reducible exact H2_) | (have H2_ := (Option.bind_some _ _).symm.trans H; with_reducible exact H2_) | with_reducible exact H | (rw [hy407]; exact H) | exact H
   have Ny407 := Aside0.mk hy407
   clear hy407
   have H' := Aside0.mk H
   clear H
   have p378 : 0 ≤ (x17_1 : Int) := dA_
   have q378 : x17_1 < (l0.length : Int) := dA_
   obtain ⟨ad378, e378, hx378_0, hx378_1, hx378_2, hx378_3⟩ := at_T70 HR0.out x17_1 p378 q378
   (try rw [← Nbq13.out] at hx378_3)
   cases e378
   replace hx378_0 := hX_ HB hx378_0
   replace hx378_1 := hX_ HB hx378_1
   replace hx378_2 := hX_ HB hx378_2
   replace hx378_3 := hX_ HB hx378_3
   replace p378 := eq_true p378
   replace q378 := eq_true q378
   try go_wp2_with (first | ((with_reducible refine gate_dst (N := 5) rfl ?_); refine box_event ?hg (N := 5) ?hd (cs := #[.string (⟨#[]⟩ : ByteArray), .int .i64 0, .string (⟨#[]⟩ : ByteArray), .bool false]) (t := 70) ?hr ?_; (case hd => rfl); (case hg => rfl); (case hr => first | (go_simp; done) | (go_simp; rfl)); intro gb379 hg w37 hbox hb; have n0_ := Aside0.mk (Kd.R_below (by (with_reducible repeat (first | apply Kd.R_alloc | apply Kd.R_drewN | apply Kd.R_drew)); exact HO_3.out) hb); have n1_ := Aside0.mk (below_step (bw_ HB) hb); have n2_ := Aside0.mk (hbox); have n3_ := Aside0.mk ((by rw [hg]; exact (below_size (bw_ HB)) : w.heap.size ≤ gb379)); have n4_ := Aside0.mk ((by rw [hg]; exact (below_size (bw_ HB)) : w.heap.size ≤ gb379)); clear HO_3; clear HB; have HO_3 := n0_; have HB := n1_; have BK379 := n2_; have GW379 := n3_; have GE379 := n4_; clear n0_ n1_ n2_ n3_ n4_; clear hb hbox hg; have hcz38_0 : w37.cell? ⟨gb379, 0, none⟩ = some (.string (⟨#[]⟩ : ByteArray)) := (blk_cell BK379.out 0).trans rfl; have hcz38_1 : w37.cell? ⟨gb379, 1, none⟩ = some (.int .i64 0) := (blk_cell BK379.out 1).trans rfl; have hcz38_2 : w37.cell? ⟨gb379, 2, none⟩ = some (.string (⟨#[]⟩ : ByteArray)) := (blk_cell BK379.out 2).trans rfl; have hcz38_3 : w37.cell? ⟨gb379, 3, none⟩ = some (.bool false) := (blk_cell BK379.out 3).trans rfl; have hfz38_0 := blk_frozen BK379.out 0; have hfz38_1 := blk_frozen BK379.out 1; have hfz38_2 := blk_frozen BK379.out 2; have hfz38_3 := blk_frozen BK379.out 3))
   have n0_ : Aside0 (Kd.R (Kd.int .u8) 5 ((((w37.setCell ⟨gb379, 0, none⟩ (.string ((rd_T70 l0 x17_1).f0))).setCell ⟨gb379, 1, none⟩ (.int .i64 ((rd_T70 l0 x17_1).f1))).setCell ⟨gb379, 2, none⟩ (.string ((rd_T70 l0 x17_1).f2))).setCell ⟨gb379, 3, none⟩ (.bool false)) w.heap.size (fun _ => True) u3 x3_1) := ⟨by (with_reducible repeat (first | apply Kd.R_alloc | apply Kd.R_drewN | apply Kd.R_drew)); exact Kd.R_mono (Kd.R_far (p := ⟨gb379, 3, none⟩) (Kd.R_far (p := ⟨gb379, 2, none⟩) (Kd.R_far (p := ⟨gb379, 1, none⟩) (Kd.R_far (p := ⟨gb379, 0, none⟩) (Kd.R_types HO_3.out BK379.out (by decide)) (fun _ hk => hk.2) (.string ((rd_T70 l0 x17_1).f0))) (fun _ hk => hk.2) (.int .i64 ((rd_T70 l0 x17_1).f1))) (fun _ hk => hk.2) (.string ((rd_T70 l0 x17_1).f2))) (fun _ hk => hk.2) (.bool false)) (fun _ hk => trivial)⟩
   have n1_ : Aside0 (((((w37.setCell ⟨gb379, 0, none⟩ (.string ((rd_T70 l0 x17_1).f0))).setCell ⟨gb379, 1, none⟩ (.int .i64 ((rd_T70 l0 x17_1).f1))).setCell ⟨gb379, 2, none⟩ (.string ((rd_T70 l0 x17_1).f2))).setCell ⟨gb379, 3, none⟩ (.bool false)).heap[gb379]? = some (.cells #[.string ((rd_T70 l0 x17_1).f0), .int .i64 ((rd_T70 l0 x17_1).f1), .string ((rd_T70 l0 x17_1).f2), .bool false] 70 (0, 0))) := ⟨by (with_reducible repeat (first | refine blk_drewN ?_ _ | refine blk_drew ?_ | refine blk_alloc ?_ _)); refine blk_put (cs := #[.string ((rd_T70 l0 x17_1).f0), .int .i64 ((rd_T70 l0 x17_1).f1), .string ((rd_T70 l0 x17_1).f2), .bool false]) ?_ 3 _ rfl; (with_reducible repeat (first | refine blk_drewN ?_ _ | refine blk_drew ?_ | refine blk_alloc ?_ _)); refine blk_put (cs := #[.string ((rd_T70 l0 x17_1).f0), .int .i64 ((rd_T70 l0 x17_1).f1), .string (⟨#[]⟩ : ByteArray), .bool false]) ?_ 2 _ rfl; (with_reducible repeat (first | refine blk_drewN ?_ _ | refine blk_drew ?_ | refine blk_alloc ?_ _)); refine blk_put (cs := #[.string ((rd_T70 l0 x17_1).f0), .int .i64 0, .string (⟨#[]⟩ : ByteArray), .bool false]) ?_ 1 _ rfl; (with_reducible repeat (first | refine blk_drewN ?_ _ | refine blk_drew ?_ | refine blk_alloc ?_ _)); refine blk_put (cs := #[.string (⟨#[]⟩ : ByteArray), .int .i64 0, .string (⟨#[]⟩ : ByteArray), .bool false]) ?_ 0 _ rfl; (with_reducible repeat (first | refine blk_drewN ?_ _ | refine blk_drew ?_ | refine blk_alloc ?_ _)); exact BK379.out⟩
   have n2_ : Aside0 (Below w.heap.size w ((((w37.setCell ⟨gb379, 0, none⟩ (.string ((rd_T70 l0 x17_1).f0))).setCell ⟨gb379, 1, none⟩ (.int .i64 ((rd_T70 l0 x17_1).f1))).setCell ⟨gb379, 2, none⟩ (.string ((rd_T70 l0 x17_1).f2))).setCell ⟨gb379, 3, none⟩ (.bool false))) := ⟨bw1_ HB GE379⟩
   (try rw [← Nbq13.out])
   (try clear HO_3)
   (try clear BK379)
   (try clear HB)
   generalize ((((w37.setCell ⟨gb379, 0, none⟩ (.string ((rd_T70 l0 x17_1).f0))).setCell ⟨gb379, 1, none⟩ (.int .i64 ((rd_T70 l0 x17_1).f1))).setCell ⟨gb379, 2, none⟩ (.string ((rd_T70 l0 x17_1).f2))).setCell ⟨gb379, 3, none⟩ (.bool false)) = w39 at n0_ n1_ n2_ ⊢
   have HO_3 := n0_
   have BK379 := n1_
   have HB := n2_
   clear n0_ n1_ n2_
   have n0_ := Aside0.mk (Kd.R_drew HO_3.out)
   have n1_ := Aside0.mk (blk_drew BK379.out)
   have n2_ := Aside0.mk (below_drew1 HB.out)
   clear HO_3
   clear BK379
   clear HB
   have HO_3 := n0_
   have BK379 := n1_
   have HB := n2_
   clear n0_ n1_ n2_
   refine start_ (n := 12) (S := fun w' => w'.cell? ⟨gb379, 0, none⟩ = some (.string ((rd_T70 l0 x17_1).f0)) ∧ w'.cell? ⟨gb379, 1, none⟩ = some (.int .i64 ((rd_T70 l0 x17_1).f1)) ∧ w'.cell? ⟨gb379, 2, none⟩ = some (.string ((rd_T70 l0 x17_1).f2)) ∧ w'.cell? ⟨gb379, 3, none⟩ = some (.bool false)) (ds := []) (bs_ 12 0) (by kernel_rfl) rfl (by kernel_rfl) ⟨(blk_cell BK379.out 0).trans rfl, (blk_cell BK379.out 1).trans rfl, (blk_cell BK379.out 2).trans rfl, (blk_cell BK379.out 3).trans rfl⟩ (fun hHeld => ?_); refine with_tabW impl_PackTree.tab10 impl_PackTree.bits10 (fun HT_ HW_ => ?_)
   generalize w39.drew = w40 at HO_3 BK379 HB hHeld ⊢
   refine pS_ 0 ?_
   refine pS_ 1 ?_
   refine pS_ 4 ?_
   refine pS_ 8 ?_
   refine t4_ 5 hHeld ?_
   refine pS_ 6 ?_
   refine t4_ 9 hHeld ?_
   refine oS_ 2 (fun K hK => ?_)
   refine value_ (w1 := ?_) (v := ?_) (by rfl) rfl ?_ ?_
   rotate_left 2
   {
   go_simp
   constructor
   {
   rfl}
   {
   rfl}}
   refine hK.out _ _ ⟨(blk_cell (blk_alloc BK379.out _) 0).trans rfl, (blk_cell (blk_alloc BK379.out _) 1).trans rfl, (blk_cell (blk_alloc BK379.out _) 2).trans rfl, (blk_cell (blk_alloc BK379.out _) 3).trans rfl⟩ (fun hHeld => ?_)
   clear hK K
   refine nS_ 30 ?_
   refine oS_ 3 (fun K hK => ?_)
   refine Kd.R_append_step (Kd.int .u8) (w0 := w) w.heap.size (by rfl) (.tmp 28) (.tmp 30) 81 5 (.int .u8 0) 1 rfl Tryz.underlying81 info5 rfl (by decide) (by omega) u3 x3_1 (((rd_T70 l0 x17_1).f1) % 256) [.int .u8 (((rd_T70 l0 x17_1).f1) % 256)] (fun _ => True) (fun _ => False) rfl rfl ?aP (fun _ hk => hk.elim) ?aF ?aO ?aB ?aS ?aL ?_
   (case aP => exact rfl)
   (case aB => exact (bw1_ HB GE379))
   (case aF => exact (fun _ _ => trivial))
   (case aO => exact (by (with_reducible repeat (first | apply Kd.R_alloc | apply Kd.R_drewN | apply Kd.R_drew)); exact HO_3.out))
   (case aS => exact (below_size (bw1_ HB GE379)))
   (case aL => have := LMc32.out; omega)
   intro v396 w41 ho hb hg hat
   rw [← Ny395.out] at ho
   have n0_ := Aside0.mk (blk_grown (g := gb379) (o := .cells #[.string ((rd_T70 l0 x17_1).f0), .int .i64 ((rd_T70 l0 x17_1).f1), .string ((rd_T70 l0 x17_1).f2), .bool false] 70 (0, 0)) (by (with_reducible repeat (first | refine blk_drewN ?_ _ | refine blk_drew ?_ | refine blk_alloc ?_ _)); exact BK379.out) hg (Kd.R_ne HO_3.out BK379.out (by decide)))
   have n1_ := Aside0.mk (hb)
   have n2_ := Aside0.mk (ho)
   clear BK379
   clear HB
   clear HO_3
   have BK379 := n0_
   have HB := n1_
   have HO397 := n2_
   clear n0_ n1_ n2_
   clear ho hb hg hat
   obtain ⟨Ao42, co42, eo42⟩ := Kd.R_slice HO397.out
   (first | subst eo42 | (injection eo42 with f1_ f2_ f3_; have f4_ := f1_.symm; have f5_ := f3_.symm; clear f1_ f2_ f3_; subst f4_; subst f5_))
   refine hK.out _ _ ⟨(blk_cell BK379.out 0).trans rfl, (blk_cell BK379.out 1).trans rfl, (blk_cell BK379.out 2).trans rfl, (blk_cell BK379.out 3).trans rfl⟩ (fun hHeld => ?_)
   clear hK K
   refine nS_ 31 ?_
   refine oS_ 7 (fun K hK => ?_)
   refine gS_ Tryz.func95 #[.slice Ao42 y395.length co42, .int .i64 (((rd_T70 l0 x17_1).f0).size : Int)] ?_
   with_reducible refine (impl_varint.calls k1 (fun k_ => some k_ = (.slice Ao42 y395.length co42 : Value).ownBlock) (.slice Ao42 y395.length co42) y395 (((rd_T70 l0 x17_1).f0).size : Int) t398 w _ ?side1 ?side2 A33.out).mono ?_
   (case side1 => repeat (first | (with_reducible first | exact HB.out | apply below_alloc | apply pw_below_drewN | apply below_drew1 | refine below_set ?_ GE379.out) | exact HB.out))
   (case side2 => exact Kd.R_tight rfl HO397.out)
   rintro e w43 ⟨v399, rfl, ho0, hb, hkp⟩
   refine ⟨_, rfl, ?_⟩
   have n0_ := Aside0.mk (blk_kept (by (with_reducible repeat (first | refine blk_drewN ?_ _ | refine blk_drew ?_ | refine blk_alloc ?_ _)); exact BK379.out) hkp (fun hs_ => (fun e_ => (Kd.R_ne HO397.out BK379.out (by decide)) e_) hs_))
   have n1_ := Aside0.mk (Kd.R_mono (ok' := fun k_ => True) ho0 (fun k_ hk_ => trivial))
   have n2_ := Aside0.mk (hb)
   clear BK379
   clear HB
   clear HO397
   have BK379 := n0_
   have HO400 := n1_
   have HB := n2_
   clear n0_ n1_ n2_
   (try clear hb)
   (try clear hkp)
   (try clear ho0)
   refine hK.out _ _ ⟨(blk_cell BK379.out 0).trans rfl, (blk_cell BK379.out 1).trans rfl, (blk_cell BK379.out 2).trans rfl, (blk_cell BK379.out 3).trans rfl⟩ (fun hHeld => ?_)
   clear hK K
   refine nS_ 35 ?_
   refine oS_ 10 (fun K hK => ?_)
   refine print_append_str_step (w0 := w) w.heap.size (by rfl) (.tmp 35) _ 81 9 5 rfl Tryz.underlying81 Tryz.underlying9 info5 v399 t398 ((rd_T70 l0 x17_1).f0) rfl rfl ?aO ?aB ?aS ?aL ?_
   (case aB => exact (bw1_ HB GE379))
   (case aO => exact (Kd.own_of_R (by (with_reducible repeat (first | apply Kd.R_alloc | apply Kd.R_drewN | apply Kd.R_drew)); exact HO400.out)))
   (case aS => exact (below_size (bw1_ HB GE379)))
   (case aL => have := LMc34.out; omega)
   intro v402 w44 ho0 hb hg
   have ho := Kd.R_of_own (h1 := fun _ => rfl) (ok := fun _ => True) ho0 (fun _ _ => trivial)
   clear ho0
   have hat := True.intro
   rw [← Ny401.out] at ho
   change Kd.R (Kd.int .u8) 5 w44 w.heap.size (fun _ => True) v402 y401 at ho
   have n0_ := Aside0.mk (blk_grown (g := gb379) (o := .cells #[.string ((rd_T70 l0 x17_1).f0), .int .i64 ((rd_T70 l0 x17_1).f1), .string ((rd_T70 l0 x17_1).f2), .bool false] 70 (0, 0)) (by (with_reducible repeat (first | refine blk_drewN ?_ _ | refine blk_drew ?_ | refine blk_alloc ?_ _)); exact BK379.out) hg (Kd.R_ne HO400.out BK379.out (by decide)))
   have n1_ := Aside0.mk (hb)
   have n2_ := Aside0.mk (ho)
   clear BK379
   clear HB
   clear HO400
   have BK379 := n0_
   have HB := n1_
   have HO403 := n2_
   clear n0_ n1_ n2_
   clear ho hb hg hat
   refine hK.out _ _ ⟨(blk_cell BK379.out 0).trans rfl, (blk_cell BK379.out 1).trans rfl, (blk_cell BK379.out 2).trans rfl, (blk_cell BK379.out 3).trans rfl⟩ (fun hHeld => ?_)
   clear hK K
   refine nS_ 38 ?_
   refine pS_ 11 ?_
   refine done_ (done_of HT_.out (by kernel_rfl)) ?_
   try go_wp2
   have n0_ := Aside0.mk (Kd.R_drew HO403.out)
   have n1_ := Aside0.mk (blk_drew BK379.out)
   have n2_ := Aside0.mk (below_drew1 HB.out)
   clear HO403
   clear BK379
   clear HB
   have HO403 := n0_
   have BK379 := n1_
   have HB := n2_
   clear n0_ n1_ n2_
   obtain ⟨Ao46, co46, eo46⟩ := Kd.R_slice HO403.out
   (first | subst eo46 | (injection eo46 with f1_ f2_ f3_; have f4_ := f1_.symm; have f5_ := f3_.symm; clear f1_ f2_ f3_; subst f4_; subst f5_))
   refine start_ (n := 9) (S := fun w' => w'.cell? ⟨gb379, 0, none⟩ = some (.string ((rd_T70 l0 x17_1).f0)) ∧ w'.cell? ⟨gb379, 1, none⟩ = some (.int .i64 ((rd_T70 l0 x17_1).f1)) ∧ w'.cell? ⟨gb379, 2, none⟩ = some (.string ((rd_T70 l0 x17_1).f2)) ∧ w'.cell? ⟨gb379, 3, none⟩ = some (.bool false)) (ds := []) (bs_ 9 0) (by kernel_rfl) rfl (by kernel_rfl) ⟨(blk_cell BK379.out 0).trans rfl, (blk_cell BK379.out 1).trans rfl, (blk_cell BK379.out 2).trans rfl, (blk_cell BK379.out 3).trans rfl⟩ (fun hHeld => ?_); refine with_tabW impl_PackTree.tab11 impl_PackTree.bits11 (fun HT_ HW_ => ?_)
   generalize w44.drew = w45 at HO403 BK379 HB hHeld ⊢
   refine pS_ 0 ?_
   refine pS_ 1 ?_
   refine pS_ 5 ?_
   refine t4_ 2 hHeld ?_
   refine pS_ 3 ?_
   refine t4_ 6 hHeld ?_
   refine oS_ 4 (fun K hK => ?_)
   refine gS_ Tryz.func95 #[.slice Ao46 y401.length co46, .int .i64 (((rd_T70 l0 x17_1).f2).size : Int)] ?_
   with_reducible refine (impl_varint.calls k1 (fun k_ => some k_ = (.slice Ao46 y401.length co46 : Value).ownBlock) (.slice Ao46 y401.length co46) y401 (((rd_T70 l0 x17_1).f2).size : Int) t404 w _ ?side1 ?side2 A35.out).mono ?_
   (case side1 => repeat (first | (with_reducible first | exact HB.out | apply below_alloc | apply pw_below_drewN | apply below_drew1 | refine below_set ?_ GE379.out) | exact HB.out))
   (case side2 => exact Kd.R_tight rfl HO403.out)
   rintro e w47 ⟨v405, rfl, ho0, hb, hkp⟩
   refine ⟨_, rfl, ?_⟩
   have n0_ := Aside0.mk (blk_kept (by (with_reducible repeat (first | refine blk_drewN ?_ _ | refine blk_drew ?_ | refine blk_alloc ?_ _)); exact BK379.out) hkp (fun hs_ => (fun e_ => (Kd.R_ne HO403.out BK379.out (by decide)) e_) hs_))
   have n1_ := Aside0.mk (Kd.R_mono (ok' := fun k_ => True) ho0 (fun k_ hk_ => trivial))
   have n2_ := Aside0.mk (hb)
   clear BK379
   clear HB
   clear HO403
   have BK379 := n0_
   have HO406 := n1_
   have HB := n2_
   clear n0_ n1_ n2_
   (try clear hb)
   (try clear hkp)
   (try clear ho0)
   refine hK.out _ _ ⟨(blk_cell BK379.out 0).trans rfl, (blk_cell BK379.out 1).trans rfl, (blk_cell BK379.out 2).trans rfl, (blk_cell BK379.out 3).trans rfl⟩ (fun hHeld => ?_)
   clear hK K
   refine nS_ 43 ?_
   refine oS_ 7 (fun K hK => ?_)
   refine print_append_str_step (w0 := w) w.heap.size (by rfl) (.tmp 43) _ 81 9 5 rfl Tryz.underlying81 Tryz.underlying9 info5 v405 t404 ((rd_T70 l0 x17_1).f2) rfl rfl ?aO ?aB ?aS ?aL ?_
   (case aB => exact (bw1_ HB GE379))
   (case aO => exact (Kd.own_of_R (by (with_reducible repeat (first | apply Kd.R_alloc | apply Kd.R_drewN | apply Kd.R_drew)); exact HO406.out)))
   (case aS => exact (below_size (bw1_ HB GE379)))
   (case aL => have := LMc36.out; omega)
   intro v408 w48 ho0 hb hg
   have ho := Kd.R_of_own (h1 := fun _ => rfl) (ok := fun _ => True) ho0 (fun _ _ => trivial)
   clear ho0
   have hat := True.intro
   rw [← Ny407.out] at ho
   change Kd.R (Kd.int .u8) 5 w48 w.heap.size (fun _ => True) v408 y407 at ho
   have n0_ := Aside0.mk (blk_grown (g := gb379) (o := .cells #[.string ((rd_T70 l0 x17_1).f0), .int .i64 ((rd_T70 l0 x17_1).f1), .string ((rd_T70 l0 x17_1).f2), .bool false] 70 (0, 0)) (by (with_reducible repeat (first | refine blk_drewN ?_ _ | refine blk_drew ?_ | refine blk_alloc ?_ _)); exact BK379.out) hg (Kd.R_ne HO406.out BK379.out (by decide)))
   have n1_ := Aside0.mk (hb)
   have n2_ := Aside0.mk (ho)
   clear BK379
   clear HB
   clear HO406
   have BK379 := n0_
   have HB := n1_
   have HO409 := n2_
   clear n0_ n1_ n2_
   clear ho hb hg hat
   refine hK.out _ _ ⟨(blk_cell BK379.out 0).trans rfl, (blk_cell BK379.out 1).trans rfl, (blk_cell BK379.out 2).trans rfl, (blk_cell BK379.out 3).trans rfl⟩ (fun hHeld => ?_)
   clear hK K
   refine nS_ 46 ?_
   refine pS_ 8 ?_
   refine done_ (done_of HT_.out (by kernel_rfl)) ?_
   try go_wp2
   go_roundg k1
   case measure => have := HK1.out; omega
   case rel => exact ⟨(y407), (wrap64 (x17_1 + 1)), (by first | rfl | (simp; done) | (simp [*]; done)), H', ⟨by have := HK1.out; omega⟩, ⟨by (with_reducible repeat (first | apply Kd.R_alloc | apply Kd.R_drewN | apply Kd.R_drew)); exact HO409.out⟩, ⟨bw1_ HB GE379⟩⟩}
   {
   rw [if_neg c36] at H
   exact absurd H (by simp)}}
   {
   rw [if_neg c34] at H
   exact absurd H (by simp)}}
   {
   rw [if_neg c32] at H
   exact absurd H (by simp)}}}
   {
   rw [if_neg c12] at H
   exact absurd H (by simp)}}
   {
   rw [if_neg c11] at H
   exact absurd H (by simp)}}
   {
   rw [if_neg c10] at H
   have c10b0 : decide (x17_1 < (l0.length : Int)) = false := decide_eq_false c10
   clear c10
   obtain rfl := Option.some.inj H
   go_wp2
   go_ret
   exact ⟨_, eR_, by (with_reducible repeat (first | apply Kd.R_alloc | apply Kd.R_drewN | apply Kd.R_drew)); exact HO_3.out, bw_ HB⟩}}
 {
 replace c3 := Bool.eq_false_iff.mpr c3
 subst c3
 rw [if_neg (show ¬ (false = true) by decide)] at H
 obtain rfl := Option.some.inj H
 go_enter Tryz.func76, Tryz.ntmps76
 go_wp2_with (first | ((with_reducible refine gate_callee (f := 63) rfl ?_); refine gL_ (some 8) Tryz.func63 #[.slice A0 l0.length c0] ?_; (with_reducible refine (impl_TreeOk.calls k _ _ l0 false _ ?side1 ?side2 ?side3 A2.out).mono ?_); (case side1 => refine EnvW.below HE.out ?_; repeat (first | (with_reducible first | exact HB.out | apply below_alloc | apply pw_below_drewN | apply below_drew1) | exact HB.out)); (case side2 => repeat (first | exact HR0.out | (with_reducible refine Kd.C_alloc ?_ _) | (with_reducible refine Kd.C_drewN ?_ _) | (with_reducible refine Kd.C_drew ?_))); (case side3 => exact HC0.out); rintro e w49 ⟨rfl, hb⟩; refine ⟨_, rfl, ?_⟩; have n0_ := Aside0.mk (below_step (bw_ HB) hb); clear HB; have HB := n0_; clear n0_; (try clear hb); (try clear hb2); (try clear hk); (try clear hi)))
 go_ret
 exact ⟨_, eR_, by first | exact Kd.R_nil _ _ _ _ _ | exact Kd.N_nil _ _ _ _ _ | exact Kd.V_nil _ _ _ _ _ | exact Kd.Q_nil _ _ _ _ _ | exact Kd.S_nil _ _ _ _ _, bw_ HB⟩
}
end Go.Proofs.YtkhhkpjeafknpaaGreatDoor.P
end

section
namespace Go.Proofs.YtkhhkpjeafknpaaGreatDoor.P
open Go.RowKit Go.Proofs.YtkhhkpjeafknpaaGreatDoorW.PrintWords Go.Proofs.YtkhhkpjeafknpaaGreatDoorW.PrintLast Go.Proofs.YtkhhkpjeafknpaaGreatDoorW.PrintMore Go.Proofs.YtkhhkpjeafknpaaGreatDoorM
attribute [local go_sem] max2_int min2_int max_two min_two max_three min_three max_four min_four
set_option linter.unusedVariables false
set_option linter.unusedSimpArgs false
def impl_TreeSum.f (k : Nat) (l0 : List (S70)) : Option (ByteArray) := (impl_TreeOk.f k l0).bind fun t410 => (if t410 = true then ((impl_PackTree.f k l0).bind fun t411 => ((impl_Sum.f k t411).bind fun t414 => ((impl_Word32.f k t414).bind fun t415 => (some t415)))) else (some (⟨#[]⟩ : ByteArray)))
theorem impl_TreeSum.mono : ∀ a0 k, LeO (impl_TreeSum.f k a0) (impl_TreeSum.f (k + 1) a0) := by
 intro a0 k
 unfold impl_TreeSum.f
 repeat' first
  | (with_reducible exact impl_PackTree.mono _ _)
  | (with_reducible exact impl_Sum.mono _ _)
  | (with_reducible exact impl_TreeOk.mono _ _)
  | (with_reducible exact impl_Word32.mono _ _)
  | (with_reducible exact LeO.refl _)
  | (with_reducible exact LeO.none _)
  | (with_reducible refine LeO.ite ?_ ?_)
  | (with_reducible refine LeO.bind ?_ (fun _ => ?_))
  | exact impl_PackTree.mono _ _
  | exact impl_Sum.mono _ _
  | exact impl_TreeOk.mono _ _
  | exact impl_Word32.mono _ _
  | exact LeO.none _
  | refine LeO.ite ?_ ?_
  | refine LeO.bind ?_ (fun _ => ?_)
set_option maxHeartbeats 8000000 in
set_option maxRecDepth 100000 in
theorem impl_TreeSum.calls (k : Nat) (A0 : Option Addr) (c0 : Nat) (l0 : List (S70)) (r : ByteArray) (w : World) (hE : EnvW w) (hr0 : Kd.C k70 w A0 l0.length l0) (hc0 : l0.length ≤ c0) (h : impl_TreeSum.f k l0 = some r) :
 Calls Tryz.prog 50 #[.slice A0 l0.length c0] w fun e w' => e = .returned (.string r) ∧ Below w.heap.size w w' := by
 have HE := Aside0.mk hE
 clear hE
 have HR0 := Aside0.mk hr0
 have HC0 := Aside0.mk hc0
 clear hr0 hc0
 have HB := Aside0.mk (Below.refl w.heap.size w)
 have H : ((impl_TreeOk.f k l0).bind fun t410 => (if t410 = true then ((impl_PackTree.f k l0).bind fun t411 => ((impl_Sum.f k t411).bind fun t414 => ((impl_Word32.f k t414).bind fun t415 => (some t415)))) else (some (⟨#[]⟩ : ByteArray)))) = some r := h
 clear h
 replace H := Option.bind_eq_some_iff.mp H
 obtain ⟨t410, A20, H⟩ := H
 have A2 := Aside0.mk A20
 clear A20
 by_cases c3 : t410 = true
 {
 subst c3
 rw [if_pos rfl] at H
 replace H := Option.bind_eq_some_iff.mp H
 obtain ⟨t411, A40, H⟩ := H
 have A4 := Aside0.mk A40
 clear A40
 replace H := Option.bind_eq_some_iff.mp H
 obtain ⟨t414, A50, H⟩ := H
 have A5 := Aside0.mk A50
 clear A50
 replace H := Option.bind_eq_some_iff.mp H
 obtain ⟨t415, A60, H⟩ := H
 have A6 := Aside0.mk A60
 clear A60
 obtain rfl := Option.some.inj H
 go_enter Tryz.func50, Tryz.ntmps50
 go_wp2_with (first | ((with_reducible refine gate_callee (f := 63) rfl ?_); refine gL_ (some 4) Tryz.func63 #[.slice A0 l0.length c0] ?_; (with_reducible refine (impl_TreeOk.calls k _ _ l0 true _ ?side1 ?side2 ?side3 A2.out).mono ?_); (case side1 => refine EnvW.below HE.out ?_; repeat (first | (with_reducible first | exact HB.out | apply below_alloc | apply pw_below_drewN | apply below_drew1) | exact HB.out)); (case side2 => repeat (first | exact HR0.out | (with_reducible refine Kd.C_alloc ?_ _) | (with_reducible refine Kd.C_drewN ?_ _) | (with_reducible refine Kd.C_drew ?_))); (case side3 => exact HC0.out); rintro e w7 ⟨rfl, hb⟩; refine ⟨_, rfl, ?_⟩; have n0_ := Aside0.mk (below_step (bw_ HB) hb); clear HB; have HB := n0_; clear n0_; (try clear hb); (try clear hb2); (try clear hk); (try clear hi)) | ((with_reducible refine gate_callee (f := 76) rfl ?_); refine gL_ (some 7) Tryz.func76 #[.slice A0 l0.length c0] ?_; (with_reducible refine (impl_PackTree.calls k _ _ l0 t411 _ ?side1 ?side2 ?side3 A4.out).mono ?_); (case side1 => refine EnvW.below HE.out ?_; repeat (first | (with_reducible first | exact HB.out | apply below_alloc | apply pw_below_drewN | apply below_drew1) | exact HB.out)); (case side2 => exact cS_ HR0 HB); (case side3 => exact HC0.out); rintro e w8 ⟨v412, rfl, ho0, hb⟩; refine ⟨_, rfl, ?_⟩; have n0_ := Aside0.mk (Kd.R_lower ho0 (below_size (bw_ HB))); have n1_ := Aside0.mk (below_step (bw_ HB) hb); clear HB; have HO413 := n0_; have HB := n1_; clear n0_ n1_; (try clear hb); (try clear hb2); (try clear hk); (try clear hi); (try clear ho0); obtain ⟨Ao9, co9, eo9⟩ := Kd.R_slice HO413.out; subst eo9) | ((with_reducible refine gate_callee (f := 75) rfl ?_); refine gL_ (some 8) Tryz.func75 #[.slice Ao9 t411.length co9] ?_; (with_reducible refine (impl_Sum.calls k _ _ t411 t414 _ ?side1 ?side2 A5.out).mono ?_); (case side1 => repeat (first | exact (Kd.R_reads' HO413.out).2.2 | (with_reducible refine Kd.C_alloc ?_ _) | (with_reducible refine Kd.C_drewN ?_ _) | (with_reducible refine Kd.C_drew ?_))); (case side2 => exact (Kd.R_reads' HO413.out).2.1); rintro e w' ⟨rfl, ⟨nd, rfl⟩⟩; refine ⟨_, rfl, ?_⟩) | ((with_reducible refine gate_callee (f := 74) rfl ?_); refine gL_ (some 9) Tryz.func74 #[.int .u64 t414] ?_; (with_reducible refine (impl_Word32.calls k t414 t415 _ A6.out).mono ?_); rintro e w10 ⟨rfl, hb⟩; refine ⟨_, rfl, ?_⟩; have n0_ := Aside0.mk (Kd.R_below (by (with_reducible repeat (first | apply Kd.R_alloc | apply Kd.R_drewN | apply Kd.R_drew)); exact HO413.out) hb); have n1_ := Aside0.mk (below_step (bw_ HB) hb); clear HO413; clear HB; have HO413 := n0_; have HB := n1_; clear n0_ n1_; (try clear hb); (try clear hb2); (try clear hk); (try clear hi)))
 go_ret
 exact ⟨eR_, bw_ HB⟩}
 {
 replace c3 := Bool.eq_false_iff.mpr c3
 subst c3
 rw [if_neg (show ¬ (false = true) by decide)] at H
 obtain rfl := Option.some.inj H
 go_enter Tryz.func50, Tryz.ntmps50
 go_wp2_with (first | ((with_reducible refine gate_callee (f := 63) rfl ?_); refine gL_ (some 4) Tryz.func63 #[.slice A0 l0.length c0] ?_; (with_reducible refine (impl_TreeOk.calls k _ _ l0 false _ ?side1 ?side2 ?side3 A2.out).mono ?_); (case side1 => refine EnvW.below HE.out ?_; repeat (first | (with_reducible first | exact HB.out | apply below_alloc | apply pw_below_drewN | apply below_drew1) | exact HB.out)); (case side2 => repeat (first | exact HR0.out | (with_reducible refine Kd.C_alloc ?_ _) | (with_reducible refine Kd.C_drewN ?_ _) | (with_reducible refine Kd.C_drew ?_))); (case side3 => exact HC0.out); rintro e w11 ⟨rfl, hb⟩; refine ⟨_, rfl, ?_⟩; have n0_ := Aside0.mk (below_step (bw_ HB) hb); clear HB; have HB := n0_; clear n0_; (try clear hb); (try clear hb2); (try clear hk); (try clear hi)))
 go_ret
 exact ⟨eR_, bw_ HB⟩
}
def strings_IndexByte.f (a0 : ByteArray) (a1 : Int) : Option Int := some (Lib.indexByte a0.data.toList a1.toNat.toUInt8)
theorem strings_IndexByte.calls (a0 : ByteArray) (a1 : Int) (r : Int) (w : World) (h : strings_IndexByte.f a0 a1 = some r) :
 Calls Tryz.prog 103 #[.string a0, .int .u8 a1] w fun e w' => e = .returned (.int .i64 r) ∧ Drawn0 w w' := by
 obtain rfl := Option.some.inj h
 exact (Tryz.strings_IndexByte a0 a1 w).mono fun e w' ⟨he, hw⟩ => ⟨he, hw ▸ Drawn0.refl _⟩
def impl_ReadWord32.l0 : Nat → ByteArray → Int → Int → Int → Option (Int × Bool)
 | 0, _, _, _, _ => none
 | k + 1, x0, x4, x11, x12 => if x12 < x11 then (if 0 ≤ x12 then (if x12 < (x0.size : Int) then ((strings_IndexByte.f (⟨#[48, 49, 50, 51, 52, 53, 54, 55, 56, 57, 97, 98, 99, 100, 102, 103, 104, 105, 106, 107, 108, 109, 110, 112, 113, 114, 115, 118, 119, 120, 121, 122]⟩ : ByteArray) (bt x0 x12)).bind fun t416 => (if t416 < 0 then (some (0, false)) else (if x12 = 0 then (if t416 > 15 then (some (0, false)) else (impl_ReadWord32.l0 k x0 (Go.bits .or .u64 (IntKind.u64.wrap (x4 * 32)) (IntKind.u64.wrap (t416))) x11 (wrap64 (x12 + 1)))) else (impl_ReadWord32.l0 k x0 (Go.bits .or .u64 (IntKind.u64.wrap (x4 * 32)) (IntKind.u64.wrap (t416))) x11 (wrap64 (x12 + 1)))))) else (none)) else (none)) else (some (x4, true))
def impl_ReadWord32.f (k : Nat) (a0 : ByteArray) : Option (Int × Bool) := if (a0.size : Int) = 13 then (impl_ReadWord32.l0 k a0 0 (a0.size : Int) 0) else (some (0, false))
theorem impl_ReadWord32.mono_l : ∀ k, (∀ y0 y1 y2 y3, LeO (impl_ReadWord32.l0 k y0 y1 y2 y3) (impl_ReadWord32.l0 (k + 1) y0 y1 y2 y3))
 | 0 => fun _ _ _ _ r h => by simp [impl_ReadWord32.l0] at h
 | k + 1 => by
  have ih0 := impl_ReadWord32.mono_l k
  {
  intro y0 y1 y2 y3
  unfold impl_ReadWord32.l0
  repeat' first
  | (with_reducible exact ih0 _ _ _ _)
  | (with_reducible exact LeO.refl _)
  | (with_reducible exact LeO.none _)
  | (with_reducible refine LeO.ite ?_ ?_)
  | (with_reducible refine LeO.bind ?_ (fun _ => ?_))
  | exact ih0 _ _ _ _
  | exact LeO.none _
  | refine LeO.ite ?_ ?_
  | refine LeO.bind ?_ (fun _ => ?_)}
theorem impl_ReadWord32.mono : ∀ a0 k, LeO (impl_ReadWord32.f k a0) (impl_ReadWord32.f (k + 1) a0) := by
 intro a0 k
 have ih0 := impl_ReadWord32.mono_l k
 unfold impl_ReadWord32.f
 repeat' first
  | (with_reducible exact ih0 _ _ _ _)
  | (with_reducible exact LeO.refl _)
  | (with_reducible exact LeO.none _)
  | (with_reducible refine LeO.ite ?_ ?_)
  | (with_reducible refine LeO.bind ?_ (fun _ => ?_))
  | exact ih0 _ _ _ _
  | exact LeO.none _
  | refine LeO.ite ?_ ?_
  | refine LeO.bind ?_ (fun _ => ?_)
set_option maxHeartbeats 8000000 in
set_option maxRecDepth 100000 in
theorem impl_ReadWord32.calls (k : Nat) (a0 : ByteArray) (r1 : Int) (r2 : Bool) (w : World) (h : impl_ReadWord32.f k a0 = some (r1, r2)) :
 Calls Tryz.prog 86 #[.string a0] w fun e w' => e = .returned (.tuple #[.int .u64 r1, .bool r2]) ∧ Drawn0 w w' := by
 have H : (if (a0.size : Int) = 13 then (impl_ReadWord32.l0 k a0 0 (a0.size : Int) 0) else (some (0, false))) = some (r1, r2) := h
 clear h
 by_cases c2 : (a0.size : Int) = 13
 {
 rw [if_pos c2] at H
 have c2b0 : ((a0.size : Int) == 13) = true := beq_iff_eq.mpr c2
 have c2b1 : ((a0.size : Int) != 13) = false := bne_eq_false_iff_eq.mpr c2
 clear c2
 have H' := Aside0.mk H
 clear H
 go_enter Tryz.func86, Tryz.ntmps86
 go_wp2
 go_loopg [4, 12] k (fun kq v4 v12 w' => ∃ (x4_1 : Int) (x12_1 : Int), v4 = .int .u64 x4_1 ∧ v12 = .int .i64 x12_1 ∧ Aside0 (impl_ReadWord32.l0 kq a0 x4_1 (a0.size : Int) x12_1 = some (r1, r2)) ∧ Aside0 (kq ≤ k) ∧ Drawn0 w w')
 case atStart => exact ⟨(0), (0), (by first | rfl | (simp; done) | (simp [*]; done)), (by first | rfl | (simp; done) | (simp [*]; done)), H', ⟨Nat.le_refl _⟩, dR_⟩
 case round =>
  clear H'
  try clear c2
  try clear c2b0
  try clear c2b1
  try clear p2
  obtain ⟨x4_1, x12_1, rfl, rfl, HA, HK1, ⟨m1, rfl⟩⟩ := hrel
  cases gk with
  | zero => exact absurd HA.out (by simp [impl_ReadWord32.l0])
  | succ k1 =>
   have H := HA.out
   clear HA
   simp only [impl_ReadWord32.l0] at H
   by_cases c3 : x12_1 < (a0.size : Int)
   {
   rw [if_pos c3] at H
   have c3b0 : decide (x12_1 < (a0.size : Int)) = true := decide_eq_true c3
   clear c3
   by_cases c4 : 0 ≤ x12_1
   {
   rw [if_pos c4] at H
   have c4b0 : decide (0 ≤ x12_1) = true := decide_eq_true c4
   clear c4
   by_cases c5 : x12_1 < (a0.size : Int)
   {
   rw [if_pos c5] at H
   have c5b0 : decide (x12_1 < (a0.size : Int)) = true := decide_eq_true c5
   clear c5
   replace H := Option.bind_eq_some_iff.mp H
   obtain ⟨t416, A70, H⟩ := H
   have A7 := Aside0.mk A70
   clear A70
   by_cases c8 : t416 < 0
   {
   rw [if_pos c8] at H
   have c8b0 : decide (t416 < 0) = true := decide_eq_true c8
   clear c8
   simp only [Option.some.injEq, Prod.mk.injEq] at H
   obtain ⟨rfl, rfl⟩ := H
   have p6 : 0 ≤ (x12_1 : Int) := dA_
   have q6 : x12_1 < (a0.size : Int) := dA_
   have hx6 := bt_at a0 x12_1
   replace p6 := eq_true p6
   replace q6 := eq_true q6
   go_wp2_with (first | ((with_reducible refine gate_callee (f := 103) rfl ?_); refine gL_ (some 18) Tryz.func103 #[.string (⟨#[48, 49, 50, 51, 52, 53, 54, 55, 56, 57, 97, 98, 99, 100, 102, 103, 104, 105, 106, 107, 108, 109, 110, 112, 113, 114, 115, 118, 119, 120, 121, 122]⟩ : ByteArray), .int .u8 (bt a0 x12_1)] ?_; (with_reducible refine (strings_IndexByte.calls (⟨#[48, 49, 50, 51, 52, 53, 54, 55, 56, 57, 97, 98, 99, 100, 102, 103, 104, 105, 106, 107, 108, 109, 110, 112, 113, 114, 115, 118, 119, 120, 121, 122]⟩ : ByteArray) (bt a0 x12_1) t416 _ A7.out).mono ?_); rintro e w' ⟨rfl, ⟨nd, rfl⟩⟩; refine ⟨_, rfl, ?_⟩))
   go_ret2
   exact ⟨eS_, dR_⟩}
   {
   rw [if_neg c8] at H
   have c8b0 : decide (t416 < 0) = false := decide_eq_false c8
   clear c8
   by_cases c9 : x12_1 = 0
   {
   rw [if_pos c9] at H
   have c9b0 : (x12_1 == 0) = true := beq_iff_eq.mpr c9
   have c9b1 : (x12_1 != 0) = false := bne_eq_false_iff_eq.mpr c9
   clear c9
   by_cases c10 : t416 > 15
   {
   rw [if_pos c10] at H
   have c10b0 : decide (15 < t416) = true := decide_eq_true c10
   clear c10
   simp only [Option.some.injEq, Prod.mk.injEq] at H
   obtain ⟨rfl, rfl⟩ := H
   have p6 : 0 ≤ (x12_1 : Int) := dA_
   have q6 : x12_1 < (a0.size : Int) := dA_
   have hx6 := bt_at a0 x12_1
   replace p6 := eq_true p6
   replace q6 := eq_true q6
   go_wp2_with (first | ((with_reducible refine gate_callee (f := 103) rfl ?_); refine gL_ (some 18) Tryz.func103 #[.string (⟨#[48, 49, 50, 51, 52, 53, 54, 55, 56, 57, 97, 98, 99, 100, 102, 103, 104, 105, 106, 107, 108, 109, 110, 112, 113, 114, 115, 118, 119, 120, 121, 122]⟩ : ByteArray), .int .u8 (bt a0 x12_1)] ?_; (with_reducible refine (strings_IndexByte.calls (⟨#[48, 49, 50, 51, 52, 53, 54, 55, 56, 57, 97, 98, 99, 100, 102, 103, 104, 105, 106, 107, 108, 109, 110, 112, 113, 114, 115, 118, 119, 120, 121, 122]⟩ : ByteArray) (bt a0 x12_1) t416 _ A7.out).mono ?_); rintro e w' ⟨rfl, ⟨nd, rfl⟩⟩; refine ⟨_, rfl, ?_⟩))
   go_ret2
   exact ⟨eS_, dR_⟩}
   {
   rw [if_neg c10] at H
   have c10b0 : decide (15 < t416) = false := decide_eq_false c10
   clear c10
   have H' := Aside0.mk H
   clear H
   have p6 : 0 ≤ (x12_1 : Int) := dA_
   have q6 : x12_1 < (a0.size : Int) := dA_
   have hx6 := bt_at a0 x12_1
   replace p6 := eq_true p6
   replace q6 := eq_true q6
   go_wp2_with (first | ((with_reducible refine gate_callee (f := 103) rfl ?_); refine gL_ (some 18) Tryz.func103 #[.string (⟨#[48, 49, 50, 51, 52, 53, 54, 55, 56, 57, 97, 98, 99, 100, 102, 103, 104, 105, 106, 107, 108, 109, 110, 112, 113, 114, 115, 118, 119, 120, 121, 122]⟩ : ByteArray), .int .u8 (bt a0 x12_1)] ?_; (with_reducible refine (strings_IndexByte.calls (⟨#[48, 49, 50, 51, 52, 53, 54, 55, 56, 57, 97, 98, 99, 100, 102, 103, 104, 105, 106, 107, 108, 109, 110, 112, 113, 114, 115, 118, 119, 120, 121, 122]⟩ : ByteArray) (bt a0 x12_1) t416 _ A7.out).mono ?_); rintro e w' ⟨rfl, ⟨nd, rfl⟩⟩; refine ⟨_, rfl, ?_⟩))
   go_roundg k1
   case measure => have := HK1.out; omega
   case rel => exact ⟨(Go.bits .or .u64 (IntKind.u64.wrap (x4_1 * 32)) (IntKind.u64.wrap (t416))), (wrap64 (x12_1 + 1)), (by first | rfl | (simp; done) | (simp [*]; done)), (by first | rfl | (simp; done) | (simp [*]; done)), H', ⟨by have := HK1.out; omega⟩, dR_⟩}}
   {
   rw [if_neg c9] at H
   have c9b0 : (x12_1 == 0) = false := beq_eq_false_iff_ne.mpr c9
   have c9b1 : (x12_1 != 0) = true := bne_iff_ne.mpr c9
   have H' := Aside0.mk H
   clear H
   have p6 : 0 ≤ (x12_1 : Int) := dA_
   have q6 : x12_1 < (a0.size : Int) := dA_
   have hx6 := bt_at a0 x12_1
   replace p6 := eq_true p6
   replace q6 := eq_true q6
   go_wp2_with (first | ((with_reducible refine gate_callee (f := 103) rfl ?_); refine gL_ (some 18) Tryz.func103 #[.string (⟨#[48, 49, 50, 51, 52, 53, 54, 55, 56, 57, 97, 98, 99, 100, 102, 103, 104, 105, 106, 107, 108, 109, 110, 112, 113, 114, 115, 118, 119, 120, 121, 122]⟩ : ByteArray), .int .u8 (bt a0 x12_1)] ?_; (with_reducible refine (strings_IndexByte.calls (⟨#[48, 49, 50, 51, 52, 53, 54, 55, 56, 57, 97, 98, 99, 100, 102, 103, 104, 105, 106, 107, 108, 109, 110, 112, 113, 114, 115, 118, 119, 120, 121, 122]⟩ : ByteArray) (bt a0 x12_1) t416 _ A7.out).mono ?_); rintro e w' ⟨rfl, ⟨nd, rfl⟩⟩; refine ⟨_, rfl, ?_⟩))
   go_roundg k1
   case measure => have := HK1.out; omega
   case rel => exact ⟨(Go.bits .or .u64 (IntKind.u64.wrap (x4_1 * 32)) (IntKind.u64.wrap (t416))), (wrap64 (x12_1 + 1)), (by first | rfl | (simp; done) | (simp [*]; done)), (by first | rfl | (simp; done) | (simp [*]; done)), H', ⟨by have := HK1.out; omega⟩, dR_⟩}}}
   {
   rw [if_neg c5] at H
   exact absurd H (by simp)}}
   {
   rw [if_neg c4] at H
   exact absurd H (by simp)}}
   {
   rw [if_neg c3] at H
   have c3b0 : decide (x12_1 < (a0.size : Int)) = false := decide_eq_false c3
   clear c3
   simp only [Option.some.injEq, Prod.mk.injEq] at H
   obtain ⟨rfl, rfl⟩ := H
   go_wp2
   go_ret2
   exact ⟨eS_, dR_⟩}}
 {
 rw [if_neg c2] at H
 have c2b0 : ((a0.size : Int) == 13) = false := beq_eq_false_iff_ne.mpr c2
 have c2b1 : ((a0.size : Int) != 13) = true := bne_iff_ne.mpr c2
 simp only [Option.some.injEq, Prod.mk.injEq] at H
 obtain ⟨rfl, rfl⟩ := H
 go_enter Tryz.func86, Tryz.ntmps86
 go_wp2
 go_ret2
 exact ⟨eS_, dR_⟩
}
def impl_AddressOk.f (k : Nat) (a0 : ByteArray) : Option (Bool) := if (a0.size : Int) < 14 then (some false) else (if 13 < (a0.size : Int) then (if (bt a0 13) = 45 then (if 14 ≤ (a0.size : Int) then ((impl_NameOk.f k (a0.extract 14 a0.size)).bind fun t417 => (if t417 = true then (if 0 ≤ 13 then (if 13 ≤ (a0.size : Int) then ((impl_ReadWord32.f k (a0.extract 0 13)).bind fun bt418 => (some bt418.2)) else (none)) else (none)) else (some false))) else (none)) else (some false)) else (none))
theorem impl_AddressOk.mono : ∀ a0 k, LeO (impl_AddressOk.f k a0) (impl_AddressOk.f (k + 1) a0) := by
 intro a0 k
 unfold impl_AddressOk.f
 repeat' first
  | (with_reducible exact impl_NameOk.mono _ _)
  | (with_reducible exact impl_ReadWord32.mono _ _)
  | (with_reducible exact LeO.refl _)
  | (with_reducible exact LeO.none _)
  | (with_reducible refine LeO.ite ?_ ?_)
  | (with_reducible refine LeO.bind ?_ (fun _ => ?_))
  | exact impl_NameOk.mono _ _
  | exact impl_ReadWord32.mono _ _
  | exact LeO.none _
  | refine LeO.ite ?_ ?_
  | refine LeO.bind ?_ (fun _ => ?_)
set_option maxHeartbeats 8000000 in
set_option maxRecDepth 100000 in
theorem impl_AddressOk.calls (k : Nat) (a0 : ByteArray) (r : Bool) (w : World) (h : impl_AddressOk.f k a0 = some r) :
 Calls Tryz.prog 62 #[.string a0] w fun e w' => e = .returned (.bool r) ∧ Drawn0 w w' := by
 have H : (if (a0.size : Int) < 14 then (some false) else (if 13 < (a0.size : Int) then (if (bt a0 13) = 45 then (if 14 ≤ (a0.size : Int) then ((impl_NameOk.f k (a0.extract 14 a0.size)).bind fun t417 => (if t417 = true then (if 0 ≤ 13 then (if 13 ≤ (a0.size : Int) then ((impl_ReadWord32.f k (a0.extract 0 13)).bind fun bt418 => (some bt418.2)) else (none)) else (none)) else (some false))) else (none)) else (some false)) else (none))) = some r := h
 clear h
 by_cases c2 : (a0.size : Int) < 14
 {
 rw [if_pos c2] at H
 have c2b0 : decide ((a0.size : Int) < 14) = true := decide_eq_true c2
 have c2b1 : decide (a0.size < 14) = true := decide_eq_true (by omega)
 clear c2
 obtain rfl := Option.some.inj H
 go_enter Tryz.func62, Tryz.ntmps62
 go_wp2
 go_ret
 exact ⟨eS_, dR_⟩}
 {
 rw [if_neg c2] at H
 have c2b0 : decide ((a0.size : Int) < 14) = false := decide_eq_false c2
 have c2b1 : decide (a0.size < 14) = false := decide_eq_false (by omega)
 clear c2
 by_cases c3 : 13 < (a0.size : Int)
 {
 rw [if_pos c3] at H
 have c3b0 : decide (13 < (a0.size : Int)) = true := decide_eq_true c3
 have c3b1 : decide (13 < a0.size) = true := decide_eq_true (by omega)
 clear c3
 by_cases c5 : (bt a0 13) = 45
 {
 rw [if_pos c5] at H
 have c5b0 : ((bt a0 13) == 45) = true := beq_iff_eq.mpr c5
 have c5b1 : ((bt a0 13) != 45) = false := bne_eq_false_iff_eq.mpr c5
 clear c5
 by_cases c6 : 14 ≤ (a0.size : Int)
 {
 rw [if_pos c6] at H
 have c6b0 := eq_true c6
 have c6b1 : decide (14 ≤ (a0.size : Int)) = true := decide_eq_true c6
 clear c6
 replace H := Option.bind_eq_some_iff.mp H
 obtain ⟨t417, A70, H⟩ := H
 have A7 := Aside0.mk A70
 clear A70
 by_cases c8 : t417 = true
 {
 subst c8
 rw [if_pos rfl] at H
 by_cases c9 : 0 ≤ 13
 {
 rw [if_pos c9] at H
 have c9b0 := eq_true c9
 have c9b1 : decide (0 ≤ 13) = true := decide_eq_true c9
 clear c9
 by_cases c10 : 13 ≤ (a0.size : Int)
 {
 rw [if_pos c10] at H
 have c10b0 := eq_true c10
 have c10b1 : decide (13 ≤ (a0.size : Int)) = true := decide_eq_true c10
 clear c10
 replace H := Option.bind_eq_some_iff.mp H
 obtain ⟨⟨t418, t419⟩, A110, H⟩ := H
 have A11 := Aside0.mk A110
 clear A110
 obtain rfl := Option.some.inj H
 have p4 : 0 ≤ (13 : Int) := (by omega)
 have q4 : 13 < a0.size := (by have : (13 : Int) < (a0.size : Int) := dA_; omega)
 have hx4 : ∀ h : 13 < a0.size, ((a0[13]'h).toNat : Int) = bt a0 13 := bt_at a0 13
 clear p4
 have qi4 : (13 < (a0.size : Int)) = True := eq_true (dA_)
 replace q4 := eq_true q4
 go_enter Tryz.func62, Tryz.ntmps62
 go_wp2_with (first | (go_at_call 85; (with_reducible refine (impl_NameOk.calls k (a0.extract 14 a0.size) true _ A7.out).mono ?_); rintro e w' ⟨rfl, ⟨nd, rfl⟩⟩) | ((with_reducible refine gate_callee (f := 86) rfl ?_); refine gL_ (some 22) Tryz.func86 #[.string (a0.extract 0 13)] ?_; (with_reducible refine (impl_ReadWord32.calls k (a0.extract 0 13) t418 t419 _ A11.out).mono ?_); rintro e w' ⟨rfl, ⟨nd, rfl⟩⟩; refine ⟨_, rfl, ?_⟩))
 go_ret
 exact ⟨eS_, dR_⟩}
 {
 rw [if_neg c10] at H
 exact absurd H (by simp)}}
 {
 rw [if_neg c9] at H
 exact absurd H (by simp)}}
 {
 replace c8 := Bool.eq_false_iff.mpr c8
 subst c8
 rw [if_neg (show ¬ (false = true) by decide)] at H
 obtain rfl := Option.some.inj H
 have p4 : 0 ≤ (13 : Int) := (by omega)
 have q4 : 13 < a0.size := (by have : (13 : Int) < (a0.size : Int) := dA_; omega)
 have hx4 : ∀ h : 13 < a0.size, ((a0[13]'h).toNat : Int) = bt a0 13 := bt_at a0 13
 clear p4
 have qi4 : (13 < (a0.size : Int)) = True := eq_true (dA_)
 replace q4 := eq_true q4
 go_enter Tryz.func62, Tryz.ntmps62
 go_wp2_with (first | (go_at_call 85; (with_reducible refine (impl_NameOk.calls k (a0.extract 14 a0.size) false _ A7.out).mono ?_); rintro e w' ⟨rfl, ⟨nd, rfl⟩⟩))
 go_ret
 exact ⟨eS_, dR_⟩}}
 {
 rw [if_neg c6] at H
 exact absurd H (by simp)}}
 {
 rw [if_neg c5] at H
 have c5b0 : ((bt a0 13) == 45) = false := beq_eq_false_iff_ne.mpr c5
 have c5b1 : ((bt a0 13) != 45) = true := bne_iff_ne.mpr c5
 obtain rfl := Option.some.inj H
 have p4 : 0 ≤ (13 : Int) := (by omega)
 have q4 : 13 < a0.size := (by have : (13 : Int) < (a0.size : Int) := dA_; omega)
 have hx4 : ∀ h : 13 < a0.size, ((a0[13]'h).toNat : Int) = bt a0 13 := bt_at a0 13
 clear p4
 have qi4 : (13 < (a0.size : Int)) = True := eq_true (dA_)
 replace q4 := eq_true q4
 go_enter Tryz.func62, Tryz.ntmps62
 go_wp2
 go_ret
 exact ⟨eS_, dR_⟩}}
 {
 rw [if_neg c3] at H
 exact absurd H (by simp)
}}
def strings_Contains.f (a0 a1 : ByteArray) : Option Bool := if a0.size < 4294967281 then some (Lib.contains a0.data.toList a1.data.toList) else none
theorem strings_Contains.calls (a0 a1 : ByteArray) (r : Bool) (w : World) (hE : EnvW w) (h : strings_Contains.f a0 a1 = some r) :
 Calls Tryz.prog 77 #[.string a0, .string a1] w fun e w' => e = .returned (.bool r) ∧ Drawn0 w w' := by
 unfold strings_Contains.f at h
 split at h
 {
 rename_i hs
 obtain rfl := Option.some.inj h
 obtain ⟨m, hm⟩ := hE.out
 exact (Tryz.strings_Contains a0 a1 m w hs hm).mono fun e w' ⟨he, hw⟩ => ⟨he, hw ▸ Drawn0.refl _⟩}
 {
 cases h
}
def impl_sorted.f (a0 : List (ByteArray × Int)) : Option (List ByteArray) := if a0.length < 2199023255552 then some (skeys a0) else none
theorem impl_sorted.info : (Tryz.prog.info? 9).map (fun i => (i.zero, i.size, i.bytes)) = some (some (.string ⟨#[]⟩), 1, 16) := by kernel_rfl
open Go.Maps Go.Sort in
set_option maxHeartbeats 1000000 in
theorem impl_sorted.calls (g0 : Nat) (a0 : List (ByteArray × Int)) (r : List ByteArray) (w : World) (hm : MapAt (kkStr Tryz.prog 9 Tryz.underlying9) ekI64 w g0 a0) (h : impl_sorted.f a0 = some r) :
 Calls Tryz.prog 78 #[.map (some g0)] w fun e w' => ∃ v0_ : Value, e = .returned (v0_) ∧ Kd.R Kd.string 9 w' w.heap.size (fun _ => True) v0_ r ∧ Below w.heap.size w w' := by
 unfold impl_sorted.f at h
 by_cases c0 : a0.length < 2199023255552
 {
 rw [if_pos c0] at h
 obtain rfl := Option.some.inj h
 clear h
 obtain ⟨i0, hi, hz0, hz1, hz2⟩ := info_parts impl_sorted.info
 have hown : w.ownsMap Tryz.prog 9 ekI64.R g0 a0.length (den (kkStr Tryz.prog 9 Tryz.underlying9) ekI64 a0) := hm
 obtain ⟨D0, hD0⟩ : ∃ D, D = den (kkStr Tryz.prog 9 Tryz.underlying9) ekI64 a0 := ⟨_, rfl⟩
 rw [← hD0] at hown
 have HD := Aside0.mk hD0
 clear hD0 hm
 have hsz := hown.size_le
 have hbl := hown.lt
 have hrow0 : w.ownsRow w.heap.size 9 1 (.slice none 0 0) 0 (List.map encStr []) := ⟨rfl, .inl ⟨rfl, rfl⟩⟩
 have law := string_keyed Tryz.underlying9
 go_enter Tryz.func78, Tryz.ntmps78
 go_wp2_with (first
  | (at_range; refine wpList_range_own _ rfl _ 92 rfl 9 3 law Tryz.underlying92 _ g0 _ _ rfl hown ?_; intro w0 hrg0 hg0 hs0)
  | go_in)
 go_frame
 go_loopw [3] (fun v wr => ∃ (left : Lit → Bool) (cnt : Nat) (ss : List (List UInt8)), wr.ranges Tryz.prog 9 ekI64.R g0 w.heap.size a0.length D0 left cnt ∧ ss.length + cnt ≤ Maps.size D0 ∧
  wr.ownsRow w.heap.size 9 1 v ss.length (ss.map encStr) ∧ Collected D0 left ss ∧ Below w.heap.size w wr)
  (fun _ wr => wr.rangeLeft g0 w.heap.size)
 case atStart =>
  exact ⟨_, _, [], hrg0, by simp, hrow0.kept hg0 (Or.inl rfl), Collected.start D0, (Below.refl _ _).grown hg0 (Nat.le_refl _) (fun j hj => by cases hj)⟩
 case round =>
  obtain ⟨left, cnt, ss, hrg, hcs, hrow, hC, hnx⟩ := hrel
  go_wp2_with (first
   | (at_next; refine wpList_next_ranges _ rfl _ rfl 9 law ekI64.R encStr (Value.int .i64) (fun key kl hk => by obtain ⟨x, hx, _⟩ := Maps.keyOf_str Tryz.underlying9 hk; exact ⟨x, hx⟩) (fun v y hv => ekI64_shape hv) g0 w.heap.size a0.length _ _ _ rfl hrg ?_ ?_)
   | go_in)
  {
  intro hc0 hl0
  have hd := HD.out
  subst hd
  have hp := collected_keys hC hl0
  rcases hrow.2 with ⟨hnil, hz⟩ | ⟨g, cap, cur, hv, hbase, hb, h1, h2, h3, h4⟩
  {
  subst hnil
  have hz' : ss = [] := by simpa using hz
  subst hz'
  go_wp2_with (go_at_call 97; refine (Tryz.slices_Sort_string_none none 0 _).mono ?_; rintro e w' ⟨rfl, rfl⟩)
  go_ret
  refine ⟨_, rfl, ?_, hnx⟩
  rw [← skeys_of_perm hp, List.mergeSort_nil, List.map_nil]
  exact Kd.R_nil _ _ _ _ _}
  {
  subst hv
  have hH : Holds encStr wr g 0 ss.toArray := holds_of_block hb (by simpa using h4)
  have hgl : g < wr.heap.size := (Array.getElem?_eq_some_iff.1 hb).1
  have hc := Tryz.slices_Sort_string g 0 cap ss wr hH hgl (by have := hc0; omega)
  go_wp2_with (go_at_call 97; refine hc.mono ?_; rintro e w' ⟨rfl, nn, os, rfl⟩)
  go_ret
  refine ⟨_, rfl, ?_, hnx.grown (grownBy_sorted _) hnx.size (fun j hj => by cases hj; exact hbase)⟩
  have ho := ownsRow_sorted (w := wr) (n := nn) (os := os) (ts := ss.mergeSort fun x y => decide (x ≤ y)) (by simp) hbase hb h1 h2 h3
  rw [encs_strs, skeys_of_perm hp] at ho
  exact R_texts_own ho}}
  {
  intro x c kl yd yp w2 cnt2 hkey hlk hv hat hrg2 hlt hg2 hs2 hen
  obtain ⟨x', ex, rfl, _⟩ := Maps.keyOf_str Tryz.underlying9 hkey
  obtain rfl : x = x' := encStr_inj ex
  have hrow2 := hrow.kept hg2 (Or.inr (row_ne_iter hrow hrg).symm)
  clear hs2
  go_wp2_with (first
   | (at_builtin; refine wpList_append_own _ rfl _ _ 29 rfl w.heap.size 9 i0 (.string ⟨#[]⟩) 1 16 Tryz.underlying29 hi hz0 hz1 hz2 rfl (by decide) _ _ _ rfl (hrow2.alloc _) ⟨w2.heap.size, 0, none⟩ 1 1 [encStr x] rfl rfl (cell_one_new _ _ _) (by simp [Value.oneCell', encStr]) (by unfold maxLen at *; omega) (by omega) (by have := hnx.size; have := hg2.size; simp; omega) ?_; intro v' w3 hown' hg3 hnil3; go_frame)
   | go_in)
  have hrg3 := (hrg2.alloc _).kept hg3 (row_ne_low hrow2 hbl) (row_ne_iter hrow2 hrg2)
  go_roundw
  case rel =>
   refine ⟨_, cnt2, ss ++ [x], hrg3, by simp; omega, by simpa using hown', hC.step hlk hat, ?_⟩
   exact ((hnx.grown hg2 hnx.size (fun j hj => by cases hj; exact Nat.le_refl _)).alloc (by have := hnx.size; have := hg2.size; omega) _).grown hg3 (by have := hnx.size; have := hg2.size; simp; omega) (fun j hj => (hrow2.lt j hj).1)
  case measure => rw [hrg3.left_eq, hrg.left_eq]; exact hlt}}
 {
 rw [if_neg c0] at h
 cases h
}
end Go.Proofs.YtkhhkpjeafknpaaGreatDoor.P
end

section
namespace Go.Proofs.YtkhhkpjeafknpaaGreatDoor.P
open Go.RowKit Go.Proofs.YtkhhkpjeafknpaaGreatDoorW.PrintWords Go.Proofs.YtkhhkpjeafknpaaGreatDoorW.PrintLast Go.Proofs.YtkhhkpjeafknpaaGreatDoorW.PrintMore Go.Proofs.YtkhhkpjeafknpaaGreatDoorM
attribute [local go_sem] max2_int min2_int max_two min_two max_three min_three max_four min_four
set_option linter.unusedVariables false
set_option linter.unusedSimpArgs false
def spec_l3Add.l0 : Nat → List ByteArray → ByteArray → Int → Option (List ByteArray)
 | 0, _, _, _ => none
 | k + 1, x0, x1, x5 => if x5 < (x0.length : Int) then (if 0 ≤ x5 then (if (Op.bytesLess ((rdOf ByteArray.empty x0 x5).toList) x1.toList) = true then (spec_l3Add.l0 k x0 x1 (wrap64 (x5 + 1))) else (if (rdOf ByteArray.empty x0 x5).toList = x1.toList then (some x0) else ((some (([] : List ByteArray) : List ByteArray)).bind fun y215 => (if x5 ≤ (x0.length : Int) then ((some (x0.take (x5 : Int).toNat : List ByteArray)).bind fun y218 => (if y215.length + y218.length < 8796093022208 then ((some (y215 ++ y218 : List ByteArray)).bind fun y222 => (if y222.length < 8796093022208 then ((some (y222 ++ [x1] : List ByteArray)).bind fun y225 => ((some (x0.drop (x5 : Int).toNat : List ByteArray)).bind fun y228 => (if y225.length + y228.length < 8796093022208 then (some (y225 ++ y228)) else (none)))) else (none))) else (none))) else (none))))) else (none)) else ((some (([] : List ByteArray) : List ByteArray)).bind fun y235 => (if 0 ≤ x5 then (if x5 ≤ (x0.length : Int) then ((some (x0.take (x5 : Int).toNat : List ByteArray)).bind fun y238 => (if y235.length + y238.length < 8796093022208 then ((some (y235 ++ y238 : List ByteArray)).bind fun y242 => (if y242.length < 8796093022208 then ((some (y242 ++ [x1] : List ByteArray)).bind fun y245 => ((some (x0.drop (x5 : Int).toNat : List ByteArray)).bind fun y248 => (if y245.length + y248.length < 8796093022208 then (some (y245 ++ y248)) else (none)))) else (none))) else (none))) else (none)) else (none)))
def spec_l3Add.f (k : Nat) (l0 : List ByteArray) (a1 : ByteArray) : Option (List ByteArray) := spec_l3Add.l0 k l0 a1 0
def spec_l3Add.T7 : Bool × List (List Nat × List Nat) := (true, [([], []), ([], []), ([1], [1]), ([0, 2], [0, 2]), ([], []), ([], []), ([4, 5], [4, 5]), ([3, 6, 3], [3, 6]), ([7, 7, 0, 1, 2, 3, 4, 5, 6, 7], [7])])
def spec_l3Add.B7 : List Nat := [0, 0, 2, 7, 0, 0, 48, 127, 255]
theorem spec_l3Add.tab7 : rtab .any (opsOf Tryz.f65 7) = spec_l3Add.T7 := by kernel_rfl
theorem spec_l3Add.bits7 : waitsOk spec_l3Add.T7.2 spec_l3Add.B7 = true := by kernel_rfl
set_option maxHeartbeats 8000000 in
set_option maxRecDepth 100000 in
theorem spec_l3Add.calls (k : Nat) (P0_ : Nat → Prop) (u9000_ : Value) (l0 : List ByteArray) (a1 : ByteArray) (r : List ByteArray) (w0 w : World) (hB : Below w0.heap.size w0 w) (ho0 : Kd.R Kd.string 9 w w0.heap.size P0_ u9000_ l0) (h : spec_l3Add.f k l0 a1 = some r) :
 Calls Tryz.prog 65 #[u9000_, .string a1] w fun e w' => ∃ v0_ : Value, e = .returned (v0_) ∧ Kd.R Kd.string 9 w' w0.heap.size (fun k_ => (P0_ k_ ∨ w.heap.size ≤ k_)) v0_ r ∧ Below w0.heap.size w0 w' ∧ Kept w w' (fun k_ => P0_ k_) := by
 have HO0 := Aside0.mk (show Kd.R Kd.string 9 w w0.heap.size (fun k_ => (P0_ k_ ∨ w.heap.size ≤ k_)) u9000_ l0 from Kd.R_mono ho0 (fun k_ hk => (.inl hk)))
 have HK := Aside0.mk (Kept.refl w (fun k_ => P0_ k_))
 have HW0 := Aside0.mk hB.size
 have HB := Aside0.mk hB
 clear hB
 have H : (spec_l3Add.l0 k l0 a1 0) = some r := h
 clear h
 have H' := Aside0.mk H
 clear H
 go_enter Tryz.func65, Tryz.ntmps65
 go_wp2
 go_loopg [5] k (fun kq v5 w' => ∃ (x5_1 : Int), v5 = .int .i64 x5_1 ∧ Aside0 (spec_l3Add.l0 kq l0 a1 x5_1 = some r) ∧ Aside0 (kq ≤ k) ∧ Aside0 (Kd.R Kd.string 9 w' w0.heap.size (fun k_ => (P0_ k_ ∨ w.heap.size ≤ k_)) u9000_ l0) ∧ Aside0 (Kept w w' (fun k_ => P0_ k_)) ∧ Aside0 (Below w0.heap.size w0 w'))
 case atStart => exact ⟨(0), (by first | rfl | (simp; done) | (simp [*]; done)), H', ⟨Nat.le_refl _⟩, ⟨by (with_reducible repeat (first | apply Kd.R_alloc | apply Kd.R_drewN | apply Kd.R_drew)); exact HO0.out⟩, ⟨by repeat (first | (with_reducible first | exact HK.out | apply Kept.alloc | apply Kept.drewN | apply Kept.drew) | exact HK.out)⟩, ⟨bw_ HB⟩⟩
 case round =>
  clear H'
  try clear p2
  obtain ⟨x5_1, rfl, HA, HK1, HO_0, HK, HB⟩ := hrel
  cases gk with
  | zero => exact absurd HA.out (by simp [spec_l3Add.l0])
  | succ k1 =>
   have H := HA.out
   clear HA
   simp only [spec_l3Add.l0] at H
   by_cases c3 : x5_1 < (l0.length : Int)
   {
   rw [if_pos c3] at H
   have c3b0 : decide (x5_1 < (l0.length : Int)) = true := decide_eq_true c3
   clear c3
   by_cases c4 : 0 ≤ x5_1
   {
   rw [if_pos c4] at H
   have c4b0 : decide (0 ≤ x5_1) = true := decide_eq_true c4
   clear c4
   by_cases c5 : (Op.bytesLess ((rdOf ByteArray.empty l0 x5_1).toList) a1.toList) = true
   {
   rw [if_pos c5] at H
   have c5b0 : (Op.bytesLess ((rdOf ByteArray.empty l0 x5_1).toList) a1.toList) = true := c5
   clear c5
   have H' := Aside0.mk H
   clear H
   obtain ⟨Ao6, co6, eo6⟩ := Kd.R_slice HO_0.out
   subst eo6
   have p213 : 0 ≤ (x5_1 : Int) := dA_
   have q213 : x5_1 < (l0.length : Int) := dA_
   obtain ⟨ad213, e213, hx213_0⟩ := Kd.at_string (Kd.R_reads' HO_0.out).2.2 x5_1 p213 q213
   cases e213
   replace p213 := eq_true p213
   replace q213 := eq_true q213
   go_wp2
   go_roundg k1
   case measure => have := HK1.out; omega
   case rel => exact ⟨(wrap64 (x5_1 + 1)), (by first | rfl | (simp; done) | (simp [*]; done)), H', ⟨by have := HK1.out; omega⟩, ⟨by (with_reducible repeat (first | apply Kd.R_alloc | apply Kd.R_drewN | apply Kd.R_drew)); exact HO_0.out⟩, ⟨by repeat (first | (with_reducible first | exact HK.out | apply Kept.alloc | apply Kept.drewN | apply Kept.drew) | exact HK.out)⟩, ⟨bw_ HB⟩⟩}
   {
   rw [if_neg c5] at H
   have c5b0 : (Op.bytesLess ((rdOf ByteArray.empty l0 x5_1).toList) a1.toList) = false := by simpa using c5
   clear c5
   by_cases c7 : (rdOf ByteArray.empty l0 x5_1).toList = a1.toList
   {
   rw [if_pos c7] at H
   have c7b0 : ((rdOf ByteArray.empty l0 x5_1).toList == a1.toList) = true := beq_iff_eq.mpr c7
   have c7b1 : ((rdOf ByteArray.empty l0 x5_1).toList != a1.toList) = false := bne_eq_false_iff_eq.mpr c7
   clear c7
   obtain rfl := Option.some.inj H
   obtain ⟨Ao8, co8, eo8⟩ := Kd.R_slice HO_0.out
   subst eo8
   have p213 : 0 ≤ (x5_1 : Int) := dA_
   have q213 : x5_1 < (l0.length : Int) := dA_
   obtain ⟨ad213, e213, hx213_0⟩ := Kd.at_string (Kd.R_reads' HO_0.out).2.2 x5_1 p213 q213
   cases e213
   replace p213 := eq_true p213
   replace q213 := eq_true q213
   have p214 : 0 ≤ (x5_1 : Int) := dA_
   have q214 : x5_1 < (l0.length : Int) := dA_
   obtain ⟨ad214, e214, hx214_0⟩ := Kd.at_string (Kd.R_reads' HO_0.out).2.2 x5_1 p214 q214
   obtain rfl : ad213 = ad214 := (by injection e214)
   replace p214 := eq_true p214
   replace q214 := eq_true q214
   go_wp2
   go_ret
   exact ⟨_, eR_, by (with_reducible repeat (first | apply Kd.R_alloc | apply Kd.R_drewN | apply Kd.R_drew)); exact HO_0.out, bw_ HB, by repeat (first | (with_reducible first | exact HK.out | apply Kept.alloc | apply Kept.drewN | apply Kept.drew) | exact HK.out)⟩}
   {
   rw [if_neg c7] at H
   have c7b0 : ((rdOf ByteArray.empty l0 x5_1).toList == a1.toList) = false := beq_eq_false_iff_ne.mpr c7
   have c7b1 : ((rdOf ByteArray.empty l0 x5_1).toList != a1.toList) = true := bne_iff_ne.mpr c7
   obtain ⟨y215, hy215⟩ : ∃ y_ : List ByteArray, y_ = (([] : List ByteArray)) := ⟨_, rfl⟩
   replace H : (if x5_1 ≤ (l0.length : Int) then ((some (l0.take (x5_1 : Int).toNat : List ByteArray)).bind fun y218 => (if y215.length + y218.length < 8796093022208 then ((some (y215 ++ y218 : List ByteArray)).bind fun y222 => (if y222.length < 8796093022208 then ((some (y222 ++ [a1] : List ByteArray)).bind fun y225 => ((some (l0.drop (x5_1 : Int).toNat : List ByteArray)).bind fun y228 => (if y225.length + y228.length < 8796093022208 then (some (y225 ++ y228)) else (none)))) else (none))) else (none))) else (none)) = some r := by first | (rw [hy215]; with_reducible exact H) | (have H2_ := (Option.bind_some _ _).symm.trans H; rw [hy215]; with_reducible exact H2_) | (have H2_ := (Option.bind_some _ _).symm.trans H; with_reducible exact H2_) | with_reducible exact H | (rw [hy215]; exact H) | exact H
   have Ny215 := Aside0.mk hy215
   clear hy215
   have c9b0 := eq_true (dA_ : 0 ≤ x5_1)
   by_cases c10 : x5_1 ≤ (l0.length : Int)
   {
   rw [if_pos c10] at H
   have c10b0 := eq_true c10
   have c10b1 : decide (x5_1 ≤ (l0.length : Int)) = true := decide_eq_true c10
   clear c10
   obtain ⟨y218, hy218⟩ : ∃ y_ : List ByteArray, y_ = (l0.take (x5_1 : Int).toNat) := ⟨_, rfl⟩
   replace H : (if y215.length + y218.length < 8796093022208 then ((some (y215 ++ y218 : List ByteArray)).bind fun y222 => (if y222.length < 8796093022208 then ((some (y222 ++ [a1] : List ByteArray)).bind fun y225 => ((some (l0.drop (x5_1 : Int).toNat : List ByteArray)).bind fun y228 => (if y225.length + y228.length < 8796093022208 then (some (y225 ++ y228)) else (none)))) else (none))) else (none)) = some r := by first | (rw [hy218]; with_reducible exact H) | (have H2_ := (Option.bind_some _ _).symm.trans H; rw [hy218]; with_reducible exact H2_) | (have H2_ := (Option.bind_some _ _).symm.trans H; with_reducible exact H2_) | with_reducible exact H | (rw [hy218]; exact H) | exact H
   have Ny218 := Aside0.mk hy218
   clear hy218
   by_cases c11 : y215.length + y218.length < 8796093022208
   {
   rw [if_pos c11] at H
   have LMc11 := Aside0.mk c11
   clear c11
   obtain ⟨y222, hy222⟩ : ∃ y_ : List ByteArray, y_ = (y215 ++ y218) := ⟨_, rfl⟩
   replace H : (if y222.length < 8796093022208 then ((some (y222 ++ [a1] : List ByteArray)).bind fun y225 => ((some (l0.drop (x5_1 : Int).toNat : List ByteArray)).bind fun y228 => (if y225.length + y228.length < 8796093022208 then (some (y225 ++ y228)) else (none)))) else (none)) = some r := by first | (rw [hy222]; with_reducible exact H) | (have H2_ := (Option.bind_some _ _).symm.trans H; rw [hy222]; with_reducible exact H2_) | (have H2_ := (Option.bind_some _ _).symm.trans H; with_reducible exact H2_) | with_reducible exact H | (rw [hy222]; exact H) | exact H
   have Ny222 := Aside0.mk hy222
   clear hy222
   by_cases c12 : y222.length < 8796093022208
   {
   rw [if_pos c12] at H
   have LMc12 := Aside0.mk c12
   clear c12
   obtain ⟨y225, hy225⟩ : ∃ y_ : List ByteArray, y_ = (y222 ++ [a1]) := ⟨_, rfl⟩
   replace H : ((some (l0.drop (x5_1 : Int).toNat : List ByteArray)).bind fun y228 => (if y225.length + y228.length < 8796093022208 then (some (y225 ++ y228)) else (none))) = some r := by first | (rw [hy225]; with_reducible exact H) | (have H2_ := (Option.bind_some _ _).symm.trans H; rw [hy225]; with_reducible exact H2_) | (have H2_ := (Option.bind_some _ _).symm.trans H; with_reducible exact H2_) | with_reducible exact H | (rw [hy225]; exact H) | exact H
   have Ny225 := Aside0.mk hy225
   clear hy225
   have c13b0 := eq_true (dA_ : 0 ≤ x5_1)
   have c14b0 := eq_true (dA_ : x5_1 ≤ (l0.length : Int))
   obtain ⟨y228, hy228⟩ : ∃ y_ : List ByteArray, y_ = (l0.drop (x5_1 : Int).toNat) := ⟨_, rfl⟩
   replace H : (if y225.length + y228.length < 8796093022208 then (some (y225 ++ y228)) else (none)) = some r := by first | (rw [hy228]; with_reducible exact H) | (have H2_ := (Option.bind_some _ _).symm.trans H; rw [hy228]; with_reducible exact H2_) | (have H2_ := (Option.bind_some _ _).symm.trans H; with_reducible exact H2_) | with_reducible exact H | (rw [hy228]; exact H) | exact H
   have Ny228 := Aside0.mk hy228
   clear hy228
   by_cases c15 : y225.length + y228.length < 8796093022208
   {
   rw [if_pos c15] at H
   have LMc15 := Aside0.mk c15
   clear c15
   obtain ⟨y232, hy232⟩ : ∃ y_ : List ByteArray, y_ = (y225 ++ y228) := ⟨_, rfl⟩
   replace H : (some y232) = some r := by first | (rw [hy232]; with_reducible exact H) | (have H2_ := (Option.bind_some _ _).symm.trans H; rw [hy232]; with_reducible exact H2_) | (have H2_ := (Option.bind_some _ _).symm.trans H; with_reducible exact H2_) | with_reducible exact H | (rw [hy232]; exact H) | exact H
   have Ny232 := Aside0.mk hy232
   clear hy232
   obtain rfl := Option.some.inj H
   obtain ⟨Ao16, co16, eo16⟩ := Kd.R_slice HO_0.out
   subst eo16
   have p213 : 0 ≤ (x5_1 : Int) := dA_
   have q213 : x5_1 < (l0.length : Int) := dA_
   obtain ⟨ad213, e213, hx213_0⟩ := Kd.at_string (Kd.R_reads' HO_0.out).2.2 x5_1 p213 q213
   cases e213
   replace p213 := eq_true p213
   replace q213 := eq_true q213
   have p214 : 0 ≤ (x5_1 : Int) := dA_
   have q214 : x5_1 < (l0.length : Int) := dA_
   obtain ⟨ad214, e214, hx214_0⟩ := Kd.at_string (Kd.R_reads' HO_0.out).2.2 x5_1 p214 q214
   obtain rfl : ad213 = ad214 := (by injection e214)
   replace p214 := eq_true p214
   replace q214 := eq_true q214
   try go_wp2_with (first | ((with_reducible refine gate_dst (N := 34) rfl ?_); refine Kd.R_lit Kd.string _ 9 ?hg (N := 34) ?hd (xs := ([] : List ByteArray)) (inner := []) (ok := fun _ => True) (okp := fun _ => True) ?hr ?hp (fun _ hk => hk) trivial (Below.refl _ _) (Nat.le_refl _) (by simp) ?_; (case hd => rfl); (case hg => rfl); (case hr => first | (go_simp; done) | (go_simp; rfl)); (case hp => exact (Reps.none _ _)); intro v216 w17 ho18 hb hg_ hnew_; clear hg_ hnew_; (first | rw [← Ny215.out] at ho18 | (simp only [Int.reduceToNat] at ho18; rw [← Ny215.out] at ho18)); have n0_ := Aside0.mk (Kd.R_elder' (by (with_reducible repeat (first | apply Kd.R_alloc | apply Kd.R_drewN | apply Kd.R_drew)); exact HO_0.out) (Kd.R_base ho18) hb); have n1_ := Aside0.mk (Kd.R_lower (Kd.R_new' (Kd.R_newM (M := fun k_ => (P0_ k_ ∨ w.heap.size ≤ k_)) ho18 (by first | exact HK.out.1 | exact (show Kept w _ (fun k_ => P0_ k_) from by repeat (first | (with_reducible first | exact HK.out | apply Kept.alloc | apply Kept.drewN | apply Kept.drew) | exact HK.out)).1) (fun k_ h_ => .inr h_)) (Kd.R_lt (by (with_reducible repeat (first | apply Kd.R_alloc | apply Kd.R_drewN | apply Kd.R_drew)); exact HO_0.out))) (below_size (bw_ HB))); have n2_ := Aside0.mk (Kept.below (S := (fun k_ => P0_ k_)) (by repeat (first | (with_reducible first | exact HK.out | apply Kept.alloc | apply Kept.drewN | apply Kept.drew) | exact HK.out)) hb); have n3_ := Aside0.mk (below_step (bw_ HB) hb); clear HO_0; clear HK; clear HB; have HO_0 := n0_; have HO217 := n1_; have HK := n2_; have HB := n3_; clear n0_ n1_ n2_ n3_; clear hb ho18; have q19 : (x5_1 : Int) ≤ ((l0.length : Int) : Int) := dA_; obtain ⟨i019, hi019, _, hsz19, _⟩ := info_parts info9; have hroom19 : l0.length ≤ co16 := (Kd.R_reads' HO_0.out).2.1; have hC19 : Kd.C Kd.string _ (some ad213) l0.length l0 := (Kd.R_reads' HO_0.out).2.2; have hcut19 := cut_to (P := Tryz.prog) 29 9 .i64 Tryz.underlying29 hi019 (some ad213) l0.length co16 x5_1 (dA_) q19 hroom19; have hr19 := Kd.C_take (m := (x5_1 : Int).toNat) hC19 (by omega); have hy19 : y218.length = (x5_1 : Int).toNat := (by rw [Ny218.out, List.length_take]; omega); rw [← Ny218.out] at hr19; rw [← hy19] at hcut19; have HR221 := Aside0.mk hr19; have HC221 := Aside0.mk (show y218.length ≤ co16 from by omega); clear hr19 hC19 hroom19 hi019 hsz19; have KY19 := Aside0.mk hy19; clear hy19; have KL19 := Aside0.mk (show (x5_1 : Int).toNat ≤ l0.length from by omega); replace q19 := eq_true q19) | ((with_reducible refine gate_builtin (b := .append) (xs := #[.tmp 34, .tmp 37]) rfl ?_); at_builtin; refine Kd.R_append_rows Kd.string (w0 := w0) w0.heap.size rfl (.tmp 34) (.tmp 37) 29 9 (.string ⟨#[]⟩) 16 rfl Tryz.underlying29 info9 rfl (by decide) (by omega) v216 y215 y218 _ _ _ (fun k_ => (P0_ k_ ∨ w.heap.size ≤ k_) ∧ some k_ ≠ (.slice (some ad213) l0.length co16 : Value).ownBlock) (fun _ => False) rfl rfl ?aO ?aR (fun _ _ h => h) (fun _ h => h.elim) ?aF ?aB ?aS ?aL ?_; (case aR => repeat (first | exact (by repeat (first | (with_reducible exact HR221.out) | (with_reducible refine Kd.C_alloc ?_ _) | (with_reducible refine Kd.C_drewN ?_ _) | (with_reducible refine Kd.C_drew ?_) | exact HR221.out)) | (with_reducible refine Kd.C_alloc ?_ _) | (with_reducible refine Kd.C_drewN ?_ _) | (with_reducible refine Kd.C_drew ?_))); (case aB => exact (bw_ HB)); (case aF => exact (fun k_ hk => ⟨(.inr (Nat.le_trans (by first | exact HK.out.1 | exact (show Kept w _ (fun k_ => P0_ k_) from by repeat (first | (with_reducible first | exact HK.out | apply Kept.alloc | apply Kept.drewN | apply Kept.drew) | exact HK.out)).1) hk)), Kd.fresh' (Kd.R_lt (by (with_reducible repeat (first | apply Kd.R_alloc | apply Kd.R_drewN | apply Kd.R_drew)); exact HO_0.out)) k_ hk⟩)); (case aO => exact (by (with_reducible repeat (first | apply Kd.R_alloc | apply Kd.R_drewN | apply Kd.R_drew)); exact Kd.R_mono HO217.out (fun _ hk => ⟨hk.1.1, hk.2⟩))); (case aS => exact (below_size (bw_ HB))); (case aL => have := LMc11.out; omega); intro v223 w20 ho hb hg hat; rw [← Ny222.out] at ho; have n0_ := Aside0.mk (Kd.R_after (ok := (fun k_ => (P0_ k_ ∨ w.heap.size ≤ k_))) (by (with_reducible repeat (first | apply Kd.R_alloc | apply Kd.R_drewN | apply Kd.R_drew)); exact HO_0.out) hg hat); have n1_ := Aside0.mk (hb); have n2_ := Aside0.mk (Kept.of_grown (S := (fun k_ => P0_ k_)) hg (by repeat (first | (with_reducible first | exact HK.out | apply Kept.alloc | apply Kept.drewN | apply Kept.drew) | exact HK.out)) (fun k_ e_ => (HO217.out.1 k_ e_).1.1)); have n3_ := Aside0.mk ((show Kd.C Kd.string w20 (some ad213) y218.length y218 from by rw [Ny218.out]; exact Kd.C_take (m := (x5_1 : Int).toNat) ((Kd.R_reads' (Kd.R_after (ok := (fun k_ => (P0_ k_ ∨ w.heap.size ≤ k_))) (by (with_reducible repeat (first | apply Kd.R_alloc | apply Kd.R_drewN | apply Kd.R_drew)); exact HO_0.out) hg hat)).2.2) KL19.out)); have n4_ := Aside0.mk (ho); clear HO_0; clear HB; clear HK; clear HR221; clear HO217; have HO_0 := n0_; have HB := n1_; have HK := n2_; have HR221 := n3_; have HO224 := n4_; clear n0_ n1_ n2_ n3_ n4_; clear ho hb hg hat))
   have n0_ := Aside0.mk (Kd.R_drew HO_0.out)
   have n1_ := Aside0.mk (Kd.R_drew HO224.out)
   have n2_ := Aside0.mk (Kd.C_drew HR221.out)
   have n3_ := Aside0.mk (Kept.drew HK.out)
   have n4_ := Aside0.mk (below_drew1 HB.out)
   clear HO_0
   clear HO224
   clear HR221
   clear HK
   clear HB
   have HO_0 := n0_
   have HO224 := n1_
   have HR221 := n2_
   have HK := n3_
   have HB := n4_
   clear n0_ n1_ n2_ n3_ n4_
   have q22 : (x5_1 : Int) ≤ ((l0.length : Int) : Int) := dA_
   obtain ⟨i022, hi022, _, hsz22, _⟩ := info_parts info9
   have hroom22 : l0.length ≤ co16 := (Kd.R_reads' HO_0.out).2.1
   have hC22 : Kd.C Kd.string _ (some ad213) l0.length l0 := (Kd.R_reads' HO_0.out).2.2
   have q022 : (0 : Int) ≤ (x5_1 : Int) := dA_
   have hcut22 := cut_from (P := Tryz.prog) 29 9 .i64 Tryz.underlying29 hi022 1 hsz22 (some ad213) l0.length co16 x5_1 q022 q22
   have hr22 := Kd.C_drop (m := (x5_1 : Int).toNat) (c := co16) hC22 (by omega) hroom22
   obtain ⟨A22, hA22⟩ : ∃ A1, A1 = (if co16 = (x5_1 : Int).toNat then (some ad213) else ((some ad213) : Option Addr).map (·.add ((x5_1 : Int).toNat * 1))) := ⟨_, rfl⟩
   obtain ⟨c22, hc22⟩ : ∃ c1, c1 = co16 - (x5_1 : Int).toNat := ⟨_, rfl⟩
   have hy22 : y228.length = l0.length - (x5_1 : Int).toNat := (by rw [Ny228.out, List.length_drop] <;> omega)
   rw [show (l0).drop (x5_1 : Int).toNat = y228 from Ny228.out.symm] at hr22
   replace hr22 : Kd.C Kd.string _ A22 y228.length y228 := (by rw [hA22]; exact hr22)
   rw [← hy22, ← hA22, ← hc22] at hcut22
   have HR231 := Aside0.mk hr22
   have HC231 := Aside0.mk (show y228.length ≤ c22 from by rw [hy22, hc22]; exact Nat.sub_le_sub_right hroom22 _)
   clear hr22 hC22 hroom22 hi022 hsz22 hc22
   have KY22 := Aside0.mk hy22
   have KA22 := Aside0.mk hA22
   clear hy22 hA22
   have KL22 := Aside0.mk (show (x5_1 : Int).toNat ≤ l0.length from by omega)
   replace q22 := eq_true q22
   refine start_ (n := 9) (S := fun w' => True) (ds := []) (bs_ 9 0) (by kernel_rfl) rfl (by kernel_rfl) trivial (fun hHeld => ?_); refine with_tabW spec_l3Add.tab7 spec_l3Add.bits7 (fun HT_ HW_ => ?_)
   generalize w20.drew = w21 at HO_0 HO224 HR221 HK HB HR231 hHeld ⊢
   refine pS_ 0 ?_
   refine pS_ 1 ?_
   refine pS_ 4 ?_
   refine pS_ 5 ?_
   refine pS_ 6 ?_
   refine oS_ 2 (fun K hK => ?_)
   refine value_ (w1 := ?_) (v := ?_) (by rfl) rfl ?_ ?_
   rotate_left 2
   {
   go_simp
   constructor
   {
   rfl}
   {
   rfl}}
   refine hK.out _ _ trivial (fun hHeld => ?_)
   clear hK K
   refine nS_ 41 ?_
   refine oS_ 3 (fun K hK => ?_)
   refine Kd.R_append_step Kd.string (w0 := w0) w0.heap.size (by rfl) (.tmp 39) (.tmp 41) 29 9 (.string ⟨#[]⟩) 16 rfl Tryz.underlying29 info9 rfl (by decide) (by omega) v223 y222 a1 [.string a1] (fun k_ => (P0_ k_ ∨ w.heap.size ≤ k_) ∧ some k_ ≠ (.slice (some ad213) l0.length co16 : Value).ownBlock) (fun _ => False) rfl rfl ?aP (fun _ hk => hk.elim) ?aF ?aO ?aB ?aS ?aL ?_
   (case aP => exact rfl)
   (case aB => exact (bw_ HB))
   (case aF => exact (fun k_ hk => ⟨(.inr (Nat.le_trans (by first | exact HK.out.1 | exact (show Kept w _ (fun k_ => P0_ k_) from by repeat (first | (with_reducible first | exact HK.out | apply Kept.alloc | apply Kept.drewN | apply Kept.drew) | exact HK.out)).1) hk)), Kd.fresh' (Kd.R_lt (by (with_reducible repeat (first | apply Kd.R_alloc | apply Kd.R_drewN | apply Kd.R_drew)); exact HO_0.out)) k_ hk⟩))
   (case aO => exact (by (with_reducible repeat (first | apply Kd.R_alloc | apply Kd.R_drewN | apply Kd.R_drew)); exact HO224.out))
   (case aS => exact (below_size (bw_ HB)))
   (case aL => have := LMc12.out; omega)
   intro v226 w23 ho hb hg hat
   rw [← Ny225.out] at ho
   have n0_ := Aside0.mk (Kd.R_after (ok := (fun k_ => (P0_ k_ ∨ w.heap.size ≤ k_))) (by (with_reducible repeat (first | apply Kd.R_alloc | apply Kd.R_drewN | apply Kd.R_drew)); exact HO_0.out) hg hat)
   have n1_ := Aside0.mk (hb)
   have n2_ := Aside0.mk (Kept.of_grown (S := (fun k_ => P0_ k_)) hg (by repeat (first | (with_reducible first | exact HK.out | apply Kept.alloc | apply Kept.drewN | apply Kept.drew) | exact HK.out)) (fun k_ e_ => (HO224.out.1 k_ e_).1))
   have n3_ := Aside0.mk ((show Kd.C Kd.string w23 (some ad213) y218.length y218 from by rw [Ny218.out]; exact Kd.C_take (m := (x5_1 : Int).toNat) ((Kd.R_reads' (Kd.R_after (ok := (fun k_ => (P0_ k_ ∨ w.heap.size ≤ k_))) (by (with_reducible repeat (first | apply Kd.R_alloc | apply Kd.R_drewN | apply Kd.R_drew)); exact HO_0.out) hg hat)).2.2) KL19.out))
   have n4_ := Aside0.mk ((show Kd.C Kd.string w23 A22 y228.length y228 from by rw [Ny228.out, KA22.out]; exact Kd.C_drop (m := (x5_1 : Int).toNat) (c := co16) ((Kd.R_reads' (Kd.R_after (ok := (fun k_ => (P0_ k_ ∨ w.heap.size ≤ k_))) (by (with_reducible repeat (first | apply Kd.R_alloc | apply Kd.R_drewN | apply Kd.R_drew)); exact HO_0.out) hg hat)).2.2) KL22.out ((Kd.R_reads' (Kd.R_after (ok := (fun k_ => (P0_ k_ ∨ w.heap.size ≤ k_))) (by (with_reducible repeat (first | apply Kd.R_alloc | apply Kd.R_drewN | apply Kd.R_drew)); exact HO_0.out) hg hat)).2.1)))
   have n5_ := Aside0.mk (ho)
   clear HO_0
   clear HB
   clear HK
   clear HR221
   clear HR231
   clear HO224
   have HO_0 := n0_
   have HB := n1_
   have HK := n2_
   have HR221 := n3_
   have HR231 := n4_
   have HO227 := n5_
   clear n0_ n1_ n2_ n3_ n4_ n5_
   clear ho hb hg hat
   refine hK.out _ _ trivial (fun hHeld => ?_)
   clear hK K
   refine nS_ 42 ?_
   refine oS_ 7 (fun K hK => ?_)
   refine Kd.R_append_rows_step Kd.string (w0 := w0) w0.heap.size (by rfl) (.tmp 42) (.tmp 45) 29 9 (.string ⟨#[]⟩) 16 rfl Tryz.underlying29 info9 rfl (by decide) (by omega) v226 y225 y228 _ _ _ (fun k_ => (P0_ k_ ∨ w.heap.size ≤ k_) ∧ some k_ ≠ (.slice (some ad213) l0.length co16 : Value).ownBlock) (fun _ => False) rfl rfl ?aO ?aR (fun _ _ h => h) (fun _ h => h.elim) ?aF ?aB ?aS ?aL ?_
   (case aR => repeat (first | exact (by repeat (first | (with_reducible exact HR231.out) | (with_reducible refine Kd.C_alloc ?_ _) | (with_reducible refine Kd.C_drewN ?_ _) | (with_reducible refine Kd.C_drew ?_) | exact HR231.out)) | (with_reducible refine Kd.C_alloc ?_ _) | (with_reducible refine Kd.C_drewN ?_ _) | (with_reducible refine Kd.C_drew ?_)))
   (case aB => exact (bw_ HB))
   (case aF => exact (fun k_ hk => ⟨(.inr (Nat.le_trans (by first | exact HK.out.1 | exact (show Kept w _ (fun k_ => P0_ k_) from by repeat (first | (with_reducible first | exact HK.out | apply Kept.alloc | apply Kept.drewN | apply Kept.drew) | exact HK.out)).1) hk)), Kd.fresh' (Kd.R_lt (by (with_reducible repeat (first | apply Kd.R_alloc | apply Kd.R_drewN | apply Kd.R_drew)); exact HO_0.out)) k_ hk⟩))
   (case aO => exact (by (with_reducible repeat (first | apply Kd.R_alloc | apply Kd.R_drewN | apply Kd.R_drew)); exact HO227.out))
   (case aS => exact (below_size (bw_ HB)))
   (case aL => have := LMc15.out; omega)
   intro v233 w24 ho hb hg hat
   rw [← Ny232.out] at ho
   have n0_ := Aside0.mk (Kd.R_after (ok := (fun k_ => (P0_ k_ ∨ w.heap.size ≤ k_))) (by (with_reducible repeat (first | apply Kd.R_alloc | apply Kd.R_drewN | apply Kd.R_drew)); exact HO_0.out) hg hat)
   have n1_ := Aside0.mk (hb)
   have n2_ := Aside0.mk (Kept.of_grown (S := (fun k_ => P0_ k_)) hg (by repeat (first | (with_reducible first | exact HK.out | apply Kept.alloc | apply Kept.drewN | apply Kept.drew) | exact HK.out)) (fun k_ e_ => (HO227.out.1 k_ e_).1))
   have n3_ := Aside0.mk ((show Kd.C Kd.string w24 (some ad213) y218.length y218 from by rw [Ny218.out]; exact Kd.C_take (m := (x5_1 : Int).toNat) ((Kd.R_reads' (Kd.R_after (ok := (fun k_ => (P0_ k_ ∨ w.heap.size ≤ k_))) (by (with_reducible repeat (first | apply Kd.R_alloc | apply Kd.R_drewN | apply Kd.R_drew)); exact HO_0.out) hg hat)).2.2) KL19.out))
   have n4_ := Aside0.mk ((show Kd.C Kd.string w24 A22 y228.length y228 from by rw [Ny228.out, KA22.out]; exact Kd.C_drop (m := (x5_1 : Int).toNat) (c := co16) ((Kd.R_reads' (Kd.R_after (ok := (fun k_ => (P0_ k_ ∨ w.heap.size ≤ k_))) (by (with_reducible repeat (first | apply Kd.R_alloc | apply Kd.R_drewN | apply Kd.R_drew)); exact HO_0.out) hg hat)).2.2) KL22.out ((Kd.R_reads' (Kd.R_after (ok := (fun k_ => (P0_ k_ ∨ w.heap.size ≤ k_))) (by (with_reducible repeat (first | apply Kd.R_alloc | apply Kd.R_drewN | apply Kd.R_drew)); exact HO_0.out) hg hat)).2.1)))
   have n5_ := Aside0.mk (ho)
   clear HO_0
   clear HB
   clear HK
   clear HR221
   clear HR231
   clear HO227
   have HO_0 := n0_
   have HB := n1_
   have HK := n2_
   have HR221 := n3_
   have HR231 := n4_
   have HO234 := n5_
   clear n0_ n1_ n2_ n3_ n4_ n5_
   clear ho hb hg hat
   refine hK.out _ _ trivial (fun hHeld => ?_)
   clear hK K
   refine nS_ 46 ?_
   refine pS_ 8 ?_
   refine done_ (done_of HT_.out (by kernel_rfl)) ?_
   try go_wp2
   go_ret
   exact ⟨_, eR_, by (with_reducible repeat (first | apply Kd.R_alloc | apply Kd.R_drewN | apply Kd.R_drew)); exact Kd.R_mono HO234.out (fun _ hk => hk.1), bw_ HB, by repeat (first | (with_reducible first | exact HK.out | apply Kept.alloc | apply Kept.drewN | apply Kept.drew) | exact HK.out)⟩}
   {
   rw [if_neg c15] at H
   exact absurd H (by simp)}}
   {
   rw [if_neg c12] at H
   exact absurd H (by simp)}}
   {
   rw [if_neg c11] at H
   exact absurd H (by simp)}}
   {
   rw [if_neg c10] at H
   exact absurd H (by simp)}}}}
   {
   rw [if_neg c4] at H
   exact absurd H (by simp)}}
   {
   rw [if_neg c3] at H
   have c3b0 : decide (x5_1 < (l0.length : Int)) = false := decide_eq_false c3
   clear c3
   obtain ⟨y235, hy235⟩ : ∃ y_ : List ByteArray, y_ = (([] : List ByteArray)) := ⟨_, rfl⟩
   replace H : (if 0 ≤ x5_1 then (if x5_1 ≤ (l0.length : Int) then ((some (l0.take (x5_1 : Int).toNat : List ByteArray)).bind fun y238 => (if y235.length + y238.length < 8796093022208 then ((some (y235 ++ y238 : List ByteArray)).bind fun y242 => (if y242.length < 8796093022208 then ((some (y242 ++ [a1] : List ByteArray)).bind fun y245 => ((some (l0.drop (x5_1 : Int).toNat : List ByteArray)).bind fun y248 => (if y245.length + y248.length < 8796093022208 then (some (y245 ++ y248)) else (none)))) else (none))) else (none))) else (none)) else (none)) = some r := by first | (rw [hy235]; with_reducible exact H) | (have H2_ := (Option.bind_some _ _).symm.trans H; rw [hy235]; with_reducible exact H2_) | (have H2_ := (Option.bind_some _ _).symm.trans H; with_reducible exact H2_) | with_reducible exact H | (rw [hy235]; exact H) | exact H
   have Ny235 := Aside0.mk hy235
   clear hy235
   by_cases c25 : 0 ≤ x5_1
   {
   rw [if_pos c25] at H
   have c25b0 := eq_true c25
   have c25b1 : decide (0 ≤ x5_1) = true := decide_eq_true c25
   clear c25
   by_cases c26 : x5_1 ≤ (l0.length : Int)
   {
   rw [if_pos c26] at H
   have c26b0 := eq_true c26
   have c26b1 : decide (x5_1 ≤ (l0.length : Int)) = true := decide_eq_true c26
   clear c26
   obtain ⟨y238, hy238⟩ : ∃ y_ : List ByteArray, y_ = (l0.take (x5_1 : Int).toNat) := ⟨_, rfl⟩
   replace H : (if y235.length + y238.length < 8796093022208 then ((some (y235 ++ y238 : List ByteArray)).bind fun y242 => (if y242.length < 8796093022208 then ((some (y242 ++ [a1] : List ByteArray)).bind fun y245 => ((some (l0.drop (x5_1 : Int).toNat : List ByteArray)).bind fun y248 => (if y245.length + y248.length < 8796093022208 then (some (y245 ++ y248)) else (none)))) else (none))) else (none)) = some r := by first | (rw [hy238]; with_reducible exact H) | (have H2_ := (Option.bind_some _ _).symm.trans H; rw [hy238]; with_reducible exact H2_) | (have H2_ := (Option.bind_some _ _).symm.trans H; with_reducible exact H2_) | with_reducible exact H | (rw [hy238]; exact H) | exact H
   have Ny238 := Aside0.mk hy238
   clear hy238
   by_cases c27 : y235.length + y238.length < 8796093022208
   {
   rw [if_pos c27] at H
   have LMc27 := Aside0.mk c27
   clear c27
   obtain ⟨y242, hy242⟩ : ∃ y_ : List ByteArray, y_ = (y235 ++ y238) := ⟨_, rfl⟩
   replace H : (if y242.length < 8796093022208 then ((some (y242 ++ [a1] : List ByteArray)).bind fun y245 => ((some (l0.drop (x5_1 : Int).toNat : List ByteArray)).bind fun y248 => (if y245.length + y248.length < 8796093022208 then (some (y245 ++ y248)) else (none)))) else (none)) = some r := by first | (rw [hy242]; with_reducible exact H) | (have H2_ := (Option.bind_some _ _).symm.trans H; rw [hy242]; with_reducible exact H2_) | (have H2_ := (Option.bind_some _ _).symm.trans H; with_reducible exact H2_) | with_reducible exact H | (rw [hy242]; exact H) | exact H
   have Ny242 := Aside0.mk hy242
   clear hy242
   by_cases c28 : y242.length < 8796093022208
   {
   rw [if_pos c28] at H
   have LMc28 := Aside0.mk c28
   clear c28
   obtain ⟨y245, hy245⟩ : ∃ y_ : List ByteArray, y_ = (y242 ++ [a1]) := ⟨_, rfl⟩
   replace H : ((some (l0.drop (x5_1 : Int).toNat : List ByteArray)).bind fun y248 => (if y245.length + y248.length < 8796093022208 then (some (y245 ++ y248)) else (none))) = some r := by first | (rw [hy245]; with_reducible exact H) | (have H2_ := (Option.bind_some _ _).symm.trans H; rw [hy245]; with_reducible exact H2_) | (have H2_ := (Option.bind_some _ _).symm.trans H; with_reducible exact H2_) | with_reducible exact H | (rw [hy245]; exact H) | exact H
   have Ny245 := Aside0.mk hy245
   clear hy245
   have c29b0 := eq_true (dA_ : 0 ≤ x5_1)
   have c30b0 := eq_true (dA_ : x5_1 ≤ (l0.length : Int))
   obtain ⟨y248, hy248⟩ : ∃ y_ : List ByteArray, y_ = (l0.drop (x5_1 : Int).toNat) := ⟨_, rfl⟩
   replace H : (if y245.length + y248.length < 8796093022208 then (some (y245 ++ y248)) else (none)) = some r := by first | (rw [hy248]; with_reducible exact H) | (have H2_ := (Option.bind_some _ _).symm.trans H; rw [hy248]; with_reducible exact H2_) | (have H2_ := (Option.bind_some _ _).symm.trans H; with_reducible exact H2_) | with_reducible exact H | (rw [hy248]; exact H) | exact H
   have Ny248 := Aside0.mk hy248
   clear hy248
   by_cases c31 : y245.length + y248.length < 8796093022208
   {
   rw [if_pos c31] at H
   have LMc31 := Aside0.mk c31
   clear c31
   obtain ⟨y252, hy252⟩ : ∃ y_ : List ByteArray, y_ = (y245 ++ y248) := ⟨_, rfl⟩
   replace H : (some y252) = some r := by first | (rw [hy252]; with_reducible exact H) | (have H2_ := (Option.bind_some _ _).symm.trans H; rw [hy252]; with_reducible exact H2_) | (have H2_ := (Option.bind_some _ _).symm.trans H; with_reducible exact H2_) | with_reducible exact H | (rw [hy252]; exact H) | exact H
   have Ny252 := Aside0.mk hy252
   clear hy252
   obtain rfl := Option.some.inj H
   obtain ⟨Ao32, co32, eo32⟩ := Kd.R_slice HO_0.out
   subst eo32
   try go_wp2_with (first | ((with_reducible refine gate_dst (N := 34) rfl ?_); refine Kd.R_lit Kd.string _ 9 ?hg (N := 34) ?hd (xs := ([] : List ByteArray)) (inner := []) (ok := fun _ => True) (okp := fun _ => True) ?hr ?hp (fun _ hk => hk) trivial (Below.refl _ _) (Nat.le_refl _) (by simp) ?_; (case hd => rfl); (case hg => rfl); (case hr => first | (go_simp; done) | (go_simp; rfl)); (case hp => exact (Reps.none _ _)); intro v236 w33 ho34 hb hg_ hnew_; clear hg_ hnew_; (first | rw [← Ny235.out] at ho34 | (simp only [Int.reduceToNat] at ho34; rw [← Ny235.out] at ho34)); have n0_ := Aside0.mk (Kd.R_elder' (by (with_reducible repeat (first | apply Kd.R_alloc | apply Kd.R_drewN | apply Kd.R_drew)); exact HO_0.out) (Kd.R_base ho34) hb); have n1_ := Aside0.mk (Kd.R_lower (Kd.R_new' (Kd.R_newM (M := fun k_ => (P0_ k_ ∨ w.heap.size ≤ k_)) ho34 (by first | exact HK.out.1 | exact (show Kept w _ (fun k_ => P0_ k_) from by repeat (first | (with_reducible first | exact HK.out | apply Kept.alloc | apply Kept.drewN | apply Kept.drew) | exact HK.out)).1) (fun k_ h_ => .inr h_)) (Kd.R_lt (by (with_reducible repeat (first | apply Kd.R_alloc | apply Kd.R_drewN | apply Kd.R_drew)); exact HO_0.out))) (below_size (bw_ HB))); have n2_ := Aside0.mk (Kept.below (S := (fun k_ => P0_ k_)) (by repeat (first | (with_reducible first | exact HK.out | apply Kept.alloc | apply Kept.drewN | apply Kept.drew) | exact HK.out)) hb); have n3_ := Aside0.mk (below_step (bw_ HB) hb); clear HO_0; clear HK; clear HB; have HO_0 := n0_; have HO237 := n1_; have HK := n2_; have HB := n3_; clear n0_ n1_ n2_ n3_; clear hb ho34; have q35 : (x5_1 : Int) ≤ ((l0.length : Int) : Int) := dA_; obtain ⟨i035, hi035, _, hsz35, _⟩ := info_parts info9; have hroom35 : l0.length ≤ co32 := (Kd.R_reads' HO_0.out).2.1; have hC35 : Kd.C Kd.string _ Ao32 l0.length l0 := (Kd.R_reads' HO_0.out).2.2; have hcut35 := cut_to (P := Tryz.prog) 29 9 .i64 Tryz.underlying29 hi035 Ao32 l0.length co32 x5_1 (dA_) q35 hroom35; have hr35 := Kd.C_take (m := (x5_1 : Int).toNat) hC35 (by omega); have hy35 : y238.length = (x5_1 : Int).toNat := (by rw [Ny238.out, List.length_take]; omega); rw [← Ny238.out] at hr35; rw [← hy35] at hcut35; have HR241 := Aside0.mk hr35; have HC241 := Aside0.mk (show y238.length ≤ co32 from by omega); clear hr35 hC35 hroom35 hi035 hsz35; have KY35 := Aside0.mk hy35; clear hy35; have KL35 := Aside0.mk (show (x5_1 : Int).toNat ≤ l0.length from by omega); replace q35 := eq_true q35) | ((with_reducible refine gate_builtin (b := .append) (xs := #[.tmp 34, .tmp 37]) rfl ?_); at_builtin; refine Kd.R_append_rows Kd.string (w0 := w0) w0.heap.size rfl (.tmp 34) (.tmp 37) 29 9 (.string ⟨#[]⟩) 16 rfl Tryz.underlying29 info9 rfl (by decide) (by omega) v236 y235 y238 _ _ _ (fun k_ => (P0_ k_ ∨ w.heap.size ≤ k_) ∧ some k_ ≠ (.slice Ao32 l0.length co32 : Value).ownBlock) (fun _ => False) rfl rfl ?aO ?aR (fun _ _ h => h) (fun _ h => h.elim) ?aF ?aB ?aS ?aL ?_; (case aR => repeat (first | exact (by repeat (first | (with_reducible exact HR241.out) | (with_reducible refine Kd.C_alloc ?_ _) | (with_reducible refine Kd.C_drewN ?_ _) | (with_reducible refine Kd.C_drew ?_) | exact HR241.out)) | (with_reducible refine Kd.C_alloc ?_ _) | (with_reducible refine Kd.C_drewN ?_ _) | (with_reducible refine Kd.C_drew ?_))); (case aB => exact (bw_ HB)); (case aF => exact (fun k_ hk => ⟨(.inr (Nat.le_trans (by first | exact HK.out.1 | exact (show Kept w _ (fun k_ => P0_ k_) from by repeat (first | (with_reducible first | exact HK.out | apply Kept.alloc | apply Kept.drewN | apply Kept.drew) | exact HK.out)).1) hk)), Kd.fresh' (Kd.R_lt (by (with_reducible repeat (first | apply Kd.R_alloc | apply Kd.R_drewN | apply Kd.R_drew)); exact HO_0.out)) k_ hk⟩)); (case aO => exact (by (with_reducible repeat (first | apply Kd.R_alloc | apply Kd.R_drewN | apply Kd.R_drew)); exact Kd.R_mono HO237.out (fun _ hk => ⟨hk.1.1, hk.2⟩))); (case aS => exact (below_size (bw_ HB))); (case aL => have := LMc27.out; omega); intro v243 w36 ho hb hg hat; rw [← Ny242.out] at ho; have n0_ := Aside0.mk (Kd.R_after (ok := (fun k_ => (P0_ k_ ∨ w.heap.size ≤ k_))) (by (with_reducible repeat (first | apply Kd.R_alloc | apply Kd.R_drewN | apply Kd.R_drew)); exact HO_0.out) hg hat); have n1_ := Aside0.mk (hb); have n2_ := Aside0.mk (Kept.of_grown (S := (fun k_ => P0_ k_)) hg (by repeat (first | (with_reducible first | exact HK.out | apply Kept.alloc | apply Kept.drewN | apply Kept.drew) | exact HK.out)) (fun k_ e_ => (HO237.out.1 k_ e_).1.1)); have n3_ := Aside0.mk ((show Kd.C Kd.string w36 Ao32 y238.length y238 from by rw [Ny238.out]; exact Kd.C_take (m := (x5_1 : Int).toNat) ((Kd.R_reads' (Kd.R_after (ok := (fun k_ => (P0_ k_ ∨ w.heap.size ≤ k_))) (by (with_reducible repeat (first | apply Kd.R_alloc | apply Kd.R_drewN | apply Kd.R_drew)); exact HO_0.out) hg hat)).2.2) KL35.out)); have n4_ := Aside0.mk (ho); clear HO_0; clear HB; clear HK; clear HR241; clear HO237; have HO_0 := n0_; have HB := n1_; have HK := n2_; have HR241 := n3_; have HO244 := n4_; clear n0_ n1_ n2_ n3_ n4_; clear ho hb hg hat))
   have n0_ := Aside0.mk (Kd.R_drew HO_0.out)
   have n1_ := Aside0.mk (Kd.R_drew HO244.out)
   have n2_ := Aside0.mk (Kd.C_drew HR241.out)
   have n3_ := Aside0.mk (Kept.drew HK.out)
   have n4_ := Aside0.mk (below_drew1 HB.out)
   clear HO_0
   clear HO244
   clear HR241
   clear HK
   clear HB
   have HO_0 := n0_
   have HO244 := n1_
   have HR241 := n2_
   have HK := n3_
   have HB := n4_
   clear n0_ n1_ n2_ n3_ n4_
   have q38 : (x5_1 : Int) ≤ ((l0.length : Int) : Int) := dA_
   obtain ⟨i038, hi038, _, hsz38, _⟩ := info_parts info9
   have hroom38 : l0.length ≤ co32 := (Kd.R_reads' HO_0.out).2.1
   have hC38 : Kd.C Kd.string _ Ao32 l0.length l0 := (Kd.R_reads' HO_0.out).2.2
   have q038 : (0 : Int) ≤ (x5_1 : Int) := dA_
   have hcut38 := cut_from (P := Tryz.prog) 29 9 .i64 Tryz.underlying29 hi038 1 hsz38 Ao32 l0.length co32 x5_1 q038 q38
   have hr38 := Kd.C_drop (m := (x5_1 : Int).toNat) (c := co32) hC38 (by omega) hroom38
   obtain ⟨A38, hA38⟩ : ∃ A1, A1 = (if co32 = (x5_1 : Int).toNat then Ao32 else (Ao32 : Option Addr).map (·.add ((x5_1 : Int).toNat * 1))) := ⟨_, rfl⟩
   obtain ⟨c38, hc38⟩ : ∃ c1, c1 = co32 - (x5_1 : Int).toNat := ⟨_, rfl⟩
   have hy38 : y248.length = l0.length - (x5_1 : Int).toNat := (by rw [Ny248.out, List.length_drop] <;> omega)
   rw [show (l0).drop (x5_1 : Int).toNat = y248 from Ny248.out.symm] at hr38
   replace hr38 : Kd.C Kd.string _ A38 y248.length y248 := (by rw [hA38]; exact hr38)
   rw [← hy38, ← hA38, ← hc38] at hcut38
   have HR251 := Aside0.mk hr38
   have HC251 := Aside0.mk (show y248.length ≤ c38 from by rw [hy38, hc38]; exact Nat.sub_le_sub_right hroom38 _)
   clear hr38 hC38 hroom38 hi038 hsz38 hc38
   have KY38 := Aside0.mk hy38
   have KA38 := Aside0.mk hA38
   clear hy38 hA38
   have KL38 := Aside0.mk (show (x5_1 : Int).toNat ≤ l0.length from by omega)
   replace q38 := eq_true q38
   refine start_ (n := 9) (S := fun w' => True) (ds := []) (bs_ 9 0) (by kernel_rfl) rfl (by kernel_rfl) trivial (fun hHeld => ?_); refine with_tabW spec_l3Add.tab7 spec_l3Add.bits7 (fun HT_ HW_ => ?_)
   generalize w36.drew = w37 at HO_0 HO244 HR241 HK HB HR251 hHeld ⊢
   refine pS_ 0 ?_
   refine pS_ 1 ?_
   refine pS_ 4 ?_
   refine pS_ 5 ?_
   refine pS_ 6 ?_
   refine oS_ 2 (fun K hK => ?_)
   refine value_ (w1 := ?_) (v := ?_) (by rfl) rfl ?_ ?_
   rotate_left 2
   {
   go_simp
   constructor
   {
   rfl}
   {
   rfl}}
   refine hK.out _ _ trivial (fun hHeld => ?_)
   clear hK K
   refine nS_ 41 ?_
   refine oS_ 3 (fun K hK => ?_)
   refine Kd.R_append_step Kd.string (w0 := w0) w0.heap.size (by rfl) (.tmp 39) (.tmp 41) 29 9 (.string ⟨#[]⟩) 16 rfl Tryz.underlying29 info9 rfl (by decide) (by omega) v243 y242 a1 [.string a1] (fun k_ => (P0_ k_ ∨ w.heap.size ≤ k_) ∧ some k_ ≠ (.slice Ao32 l0.length co32 : Value).ownBlock) (fun _ => False) rfl rfl ?aP (fun _ hk => hk.elim) ?aF ?aO ?aB ?aS ?aL ?_
   (case aP => exact rfl)
   (case aB => exact (bw_ HB))
   (case aF => exact (fun k_ hk => ⟨(.inr (Nat.le_trans (by first | exact HK.out.1 | exact (show Kept w _ (fun k_ => P0_ k_) from by repeat (first | (with_reducible first | exact HK.out | apply Kept.alloc | apply Kept.drewN | apply Kept.drew) | exact HK.out)).1) hk)), Kd.fresh' (Kd.R_lt (by (with_reducible repeat (first | apply Kd.R_alloc | apply Kd.R_drewN | apply Kd.R_drew)); exact HO_0.out)) k_ hk⟩))
   (case aO => exact (by (with_reducible repeat (first | apply Kd.R_alloc | apply Kd.R_drewN | apply Kd.R_drew)); exact HO244.out))
   (case aS => exact (below_size (bw_ HB)))
   (case aL => have := LMc28.out; omega)
   intro v246 w39 ho hb hg hat
   rw [← Ny245.out] at ho
   have n0_ := Aside0.mk (Kd.R_after (ok := (fun k_ => (P0_ k_ ∨ w.heap.size ≤ k_))) (by (with_reducible repeat (first | apply Kd.R_alloc | apply Kd.R_drewN | apply Kd.R_drew)); exact HO_0.out) hg hat)
   have n1_ := Aside0.mk (hb)
   have n2_ := Aside0.mk (Kept.of_grown (S := (fun k_ => P0_ k_)) hg (by repeat (first | (with_reducible first | exact HK.out | apply Kept.alloc | apply Kept.drewN | apply Kept.drew) | exact HK.out)) (fun k_ e_ => (HO244.out.1 k_ e_).1))
   have n3_ := Aside0.mk ((show Kd.C Kd.string w39 Ao32 y238.length y238 from by rw [Ny238.out]; exact Kd.C_take (m := (x5_1 : Int).toNat) ((Kd.R_reads' (Kd.R_after (ok := (fun k_ => (P0_ k_ ∨ w.heap.size ≤ k_))) (by (with_reducible repeat (first | apply Kd.R_alloc | apply Kd.R_drewN | apply Kd.R_drew)); exact HO_0.out) hg hat)).2.2) KL35.out))
   have n4_ := Aside0.mk ((show Kd.C Kd.string w39 A38 y248.length y248 from by rw [Ny248.out, KA38.out]; exact Kd.C_drop (m := (x5_1 : Int).toNat) (c := co32) ((Kd.R_reads' (Kd.R_after (ok := (fun k_ => (P0_ k_ ∨ w.heap.size ≤ k_))) (by (with_reducible repeat (first | apply Kd.R_alloc | apply Kd.R_drewN | apply Kd.R_drew)); exact HO_0.out) hg hat)).2.2) KL38.out ((Kd.R_reads' (Kd.R_after (ok := (fun k_ => (P0_ k_ ∨ w.heap.size ≤ k_))) (by (with_reducible repeat (first | apply Kd.R_alloc | apply Kd.R_drewN | apply Kd.R_drew)); exact HO_0.out) hg hat)).2.1)))
   have n5_ := Aside0.mk (ho)
   clear HO_0
   clear HB
   clear HK
   clear HR241
   clear HR251
   clear HO244
   have HO_0 := n0_
   have HB := n1_
   have HK := n2_
   have HR241 := n3_
   have HR251 := n4_
   have HO247 := n5_
   clear n0_ n1_ n2_ n3_ n4_ n5_
   clear ho hb hg hat
   refine hK.out _ _ trivial (fun hHeld => ?_)
   clear hK K
   refine nS_ 42 ?_
   refine oS_ 7 (fun K hK => ?_)
   refine Kd.R_append_rows_step Kd.string (w0 := w0) w0.heap.size (by rfl) (.tmp 42) (.tmp 45) 29 9 (.string ⟨#[]⟩) 16 rfl Tryz.underlying29 info9 rfl (by decide) (by omega) v246 y245 y248 _ _ _ (fun k_ => (P0_ k_ ∨ w.heap.size ≤ k_) ∧ some k_ ≠ (.slice Ao32 l0.length co32 : Value).ownBlock) (fun _ => False) rfl rfl ?aO ?aR (fun _ _ h => h) (fun _ h => h.elim) ?aF ?aB ?aS ?aL ?_
   (case aR => repeat (first | exact (by repeat (first | (with_reducible exact HR251.out) | (with_reducible refine Kd.C_alloc ?_ _) | (with_reducible refine Kd.C_drewN ?_ _) | (with_reducible refine Kd.C_drew ?_) | exact HR251.out)) | (with_reducible refine Kd.C_alloc ?_ _) | (with_reducible refine Kd.C_drewN ?_ _) | (with_reducible refine Kd.C_drew ?_)))
   (case aB => exact (bw_ HB))
   (case aF => exact (fun k_ hk => ⟨(.inr (Nat.le_trans (by first | exact HK.out.1 | exact (show Kept w _ (fun k_ => P0_ k_) from by repeat (first | (with_reducible first | exact HK.out | apply Kept.alloc | apply Kept.drewN | apply Kept.drew) | exact HK.out)).1) hk)), Kd.fresh' (Kd.R_lt (by (with_reducible repeat (first | apply Kd.R_alloc | apply Kd.R_drewN | apply Kd.R_drew)); exact HO_0.out)) k_ hk⟩))
   (case aO => exact (by (with_reducible repeat (first | apply Kd.R_alloc | apply Kd.R_drewN | apply Kd.R_drew)); exact HO247.out))
   (case aS => exact (below_size (bw_ HB)))
   (case aL => have := LMc31.out; omega)
   intro v253 w40 ho hb hg hat
   rw [← Ny252.out] at ho
   have n0_ := Aside0.mk (Kd.R_after (ok := (fun k_ => (P0_ k_ ∨ w.heap.size ≤ k_))) (by (with_reducible repeat (first | apply Kd.R_alloc | apply Kd.R_drewN | apply Kd.R_drew)); exact HO_0.out) hg hat)
   have n1_ := Aside0.mk (hb)
   have n2_ := Aside0.mk (Kept.of_grown (S := (fun k_ => P0_ k_)) hg (by repeat (first | (with_reducible first | exact HK.out | apply Kept.alloc | apply Kept.drewN | apply Kept.drew) | exact HK.out)) (fun k_ e_ => (HO247.out.1 k_ e_).1))
   have n3_ := Aside0.mk ((show Kd.C Kd.string w40 Ao32 y238.length y238 from by rw [Ny238.out]; exact Kd.C_take (m := (x5_1 : Int).toNat) ((Kd.R_reads' (Kd.R_after (ok := (fun k_ => (P0_ k_ ∨ w.heap.size ≤ k_))) (by (with_reducible repeat (first | apply Kd.R_alloc | apply Kd.R_drewN | apply Kd.R_drew)); exact HO_0.out) hg hat)).2.2) KL35.out))
   have n4_ := Aside0.mk ((show Kd.C Kd.string w40 A38 y248.length y248 from by rw [Ny248.out, KA38.out]; exact Kd.C_drop (m := (x5_1 : Int).toNat) (c := co32) ((Kd.R_reads' (Kd.R_after (ok := (fun k_ => (P0_ k_ ∨ w.heap.size ≤ k_))) (by (with_reducible repeat (first | apply Kd.R_alloc | apply Kd.R_drewN | apply Kd.R_drew)); exact HO_0.out) hg hat)).2.2) KL38.out ((Kd.R_reads' (Kd.R_after (ok := (fun k_ => (P0_ k_ ∨ w.heap.size ≤ k_))) (by (with_reducible repeat (first | apply Kd.R_alloc | apply Kd.R_drewN | apply Kd.R_drew)); exact HO_0.out) hg hat)).2.1)))
   have n5_ := Aside0.mk (ho)
   clear HO_0
   clear HB
   clear HK
   clear HR241
   clear HR251
   clear HO247
   have HO_0 := n0_
   have HB := n1_
   have HK := n2_
   have HR241 := n3_
   have HR251 := n4_
   have HO254 := n5_
   clear n0_ n1_ n2_ n3_ n4_ n5_
   clear ho hb hg hat
   refine hK.out _ _ trivial (fun hHeld => ?_)
   clear hK K
   refine nS_ 46 ?_
   refine pS_ 8 ?_
   refine done_ (done_of HT_.out (by kernel_rfl)) ?_
   try go_wp2
   go_ret
   exact ⟨_, eR_, by (with_reducible repeat (first | apply Kd.R_alloc | apply Kd.R_drewN | apply Kd.R_drew)); exact Kd.R_mono HO254.out (fun _ hk => hk.1), bw_ HB, by repeat (first | (with_reducible first | exact HK.out | apply Kept.alloc | apply Kept.drewN | apply Kept.drew) | exact HK.out)⟩}
   {
   rw [if_neg c31] at H
   exact absurd H (by simp)}}
   {
   rw [if_neg c28] at H
   exact absurd H (by simp)}}
   {
   rw [if_neg c27] at H
   exact absurd H (by simp)}}
   {
   rw [if_neg c26] at H
   exact absurd H (by simp)}}
   {
   rw [if_neg c25] at H
   exact absurd H (by simp)
}}
end Go.Proofs.YtkhhkpjeafknpaaGreatDoor.P
end

section
namespace Go.Proofs.YtkhhkpjeafknpaaGreatDoor.P
open Go.RowKit Go.Proofs.YtkhhkpjeafknpaaGreatDoorW.PrintWords Go.Proofs.YtkhhkpjeafknpaaGreatDoorW.PrintLast Go.Proofs.YtkhhkpjeafknpaaGreatDoorW.PrintMore Go.Proofs.YtkhhkpjeafknpaaGreatDoorM
attribute [local go_sem] max2_int min2_int max_two min_two max_three min_three max_four min_four
set_option linter.unusedVariables false
set_option linter.unusedSimpArgs false
def spec_l10Has.l0 : Nat → ByteArray → ByteArray → Int → Option (Bool)
 | 0, _, _, _ => none
 | k + 1, x0, x1, x5 => if (wrap64 (x5 + (x1.size : Int))) ≤ (x0.size : Int) then (if 0 ≤ x5 then (if x5 ≤ (wrap64 (x5 + (x1.size : Int))) then (if (x0.extract (x5 : Int).toNat ((wrap64 (x5 + (x1.size : Int))) : Int).toNat).toList = x1.toList then (some true) else (spec_l10Has.l0 k x0 x1 (wrap64 (x5 + 1)))) else (none)) else (none)) else (some false)
def spec_l10Has.f (k : Nat) (a0 : ByteArray) (a1 : ByteArray) : Option (Bool) := spec_l10Has.l0 k a0 a1 0
set_option maxHeartbeats 8000000 in
set_option maxRecDepth 100000 in
theorem spec_l10Has.calls (k : Nat) (a0 : ByteArray) (a1 : ByteArray) (r : Bool) (w : World) (h : spec_l10Has.f k a0 a1 = some r) :
 Calls Tryz.prog 84 #[.string a0, .string a1] w fun e w' => e = .returned (.bool r) ∧ Drawn0 w w' := by
 have H : (spec_l10Has.l0 k a0 a1 0) = some r := h
 clear h
 have H' := Aside0.mk H
 clear H
 go_enter Tryz.func84, Tryz.ntmps84
 go_wp2
 go_loopg [5] k (fun kq v5 w' => ∃ (x5_1 : Int), v5 = .int .i64 x5_1 ∧ Aside0 (spec_l10Has.l0 kq a0 a1 x5_1 = some r) ∧ Aside0 (kq ≤ k) ∧ Drawn0 w w')
 case atStart => exact ⟨(0), (by first | rfl | (simp; done) | (simp [*]; done)), H', ⟨Nat.le_refl _⟩, dR_⟩
 case round =>
  clear H'
  try clear p2
  obtain ⟨x5_1, rfl, HA, HK1, ⟨m1, rfl⟩⟩ := hrel
  cases gk with
  | zero => exact absurd HA.out (by simp [spec_l10Has.l0])
  | succ k1 =>
   have H := HA.out
   clear HA
   simp only [spec_l10Has.l0] at H
   by_cases c3 : (wrap64 (x5_1 + (a1.size : Int))) ≤ (a0.size : Int)
   {
   rw [if_pos c3] at H
   have c3b0 : decide ((wrap64 (x5_1 + (a1.size : Int))) ≤ (a0.size : Int)) = true := decide_eq_true c3
   clear c3
   by_cases c4 : 0 ≤ x5_1
   {
   rw [if_pos c4] at H
   have c4b0 := eq_true c4
   have c4b1 : decide (0 ≤ x5_1) = true := decide_eq_true c4
   clear c4
   by_cases c5 : x5_1 ≤ (wrap64 (x5_1 + (a1.size : Int)))
   {
   rw [if_pos c5] at H
   have c5b0 := eq_true c5
   have c5b1 : decide (x5_1 ≤ (wrap64 (x5_1 + (a1.size : Int)))) = true := decide_eq_true c5
   have c6b0 := eq_true (dA_ : (wrap64 (x5_1 + (a1.size : Int))) ≤ (a0.size : Int))
   by_cases c7 : (a0.extract (x5_1 : Int).toNat ((wrap64 (x5_1 + (a1.size : Int))) : Int).toNat).toList = a1.toList
   {
   rw [if_pos c7] at H
   have c7b0 : ((a0.extract (x5_1 : Int).toNat ((wrap64 (x5_1 + (a1.size : Int))) : Int).toNat).toList == a1.toList) = true := beq_iff_eq.mpr c7
   have c7b1 : ((a0.extract (x5_1 : Int).toNat ((wrap64 (x5_1 + (a1.size : Int))) : Int).toNat).toList != a1.toList) = false := bne_eq_false_iff_eq.mpr c7
   clear c7
   obtain rfl := Option.some.inj H
   go_wp2
   go_ret
   exact ⟨eS_, dR_⟩}
   {
   rw [if_neg c7] at H
   have c7b0 : ((a0.extract (x5_1 : Int).toNat ((wrap64 (x5_1 + (a1.size : Int))) : Int).toNat).toList == a1.toList) = false := beq_eq_false_iff_ne.mpr c7
   have c7b1 : ((a0.extract (x5_1 : Int).toNat ((wrap64 (x5_1 + (a1.size : Int))) : Int).toNat).toList != a1.toList) = true := bne_iff_ne.mpr c7
   have H' := Aside0.mk H
   clear H
   go_wp2
   go_roundg k1
   case measure => have := HK1.out; omega
   case rel => exact ⟨(wrap64 (x5_1 + 1)), (by first | rfl | (simp; done) | (simp [*]; done)), H', ⟨by have := HK1.out; omega⟩, dR_⟩}}
   {
   rw [if_neg c5] at H
   exact absurd H (by simp)}}
   {
   rw [if_neg c4] at H
   exact absurd H (by simp)}}
   {
   rw [if_neg c3] at H
   have c3b0 : decide ((wrap64 (x5_1 + (a1.size : Int))) ≤ (a0.size : Int)) = false := decide_eq_false c3
   clear c3
   obtain rfl := Option.some.inj H
   go_wp2
   go_ret
   exact ⟨eS_, dR_⟩
}
mutual
def spec_l10Refs.l0 : Nat → List (S70) → List ByteArray → List ByteArray → Int → Option (List ByteArray)
 | 0, _, _, _, _ => none
 | k + 1, x0, x1, x5, x6 => if x6 < (x1.length : Int) then (if 0 ≤ x6 then ((spec_AddressOk.f k (rdOf ByteArray.empty x1 x6)).bind fun t259 => (if t259 = true then (spec_l10Refs.l1 k x0 x1 x5 x6 0) else (spec_l10Refs.l0 k x0 x1 x5 (wrap64 (x6 + 1))))) else (none)) else (some x5)
def spec_l10Refs.l1 : Nat → List (S70) → List ByteArray → List ByteArray → Int → Int → Option (List ByteArray)
 | 0, _, _, _, _, _ => none
 | k + 1, x0, x1, x5, x6, x7 => if x7 < (x0.length : Int) then (if 0 ≤ x7 then (if 0 ≤ x6 then (if x6 < (x1.length : Int) then (if 0 ≤ 13 then (if 13 ≤ ((rdOf ByteArray.empty x1 x6).size : Int) then ((spec_l10Has.f k ((rd_T70 x0 x7).f2) ((rdOf ByteArray.empty x1 x6).extract 0 13)).bind fun t262 => (if t262 = true then ((spec_l3Add.f k x5 (rdOf ByteArray.empty x1 x6)).bind fun t264 => (spec_l10Refs.l0 k x0 x1 t264 (wrap64 (x6 + 1)))) else (spec_l10Refs.l1 k x0 x1 x5 x6 (wrap64 (x7 + 1))))) else (none)) else (none)) else (none)) else (none)) else (none)) else (spec_l10Refs.l0 k x0 x1 x5 (wrap64 (x6 + 1)))
end
def spec_l10Refs.f (k : Nat) (l0 : List (S70)) (l1 : List ByteArray) : Option (List ByteArray) := spec_l10Refs.l0 k l0 l1 (([] : List ByteArray)) 0
set_option maxHeartbeats 8000000 in
set_option maxRecDepth 100000 in
theorem spec_l10Refs.calls (k : Nat) (A0 : Option Addr) (c0 : Nat) (l0 : List (S70)) (A1 : Option Addr) (c1 : Nat) (l1 : List ByteArray) (r : List ByteArray) (w : World) (hr0 : Kd.C k70 w A0 l0.length l0) (hc0 : l0.length ≤ c0) (hr1 : Kd.C Kd.string w A1 l1.length l1) (hc1 : l1.length ≤ c1) (h : spec_l10Refs.f k l0 l1 = some r) :
 Calls Tryz.prog 61 #[.slice A0 l0.length c0, .slice A1 l1.length c1] w fun e w' => ∃ v0_ : Value, e = .returned (v0_) ∧ Kd.R Kd.string 9 w' w.heap.size (fun _ => True) v0_ r ∧ Below w.heap.size w w' := by
 have HR0 := Aside0.mk hr0
 have HC0 := Aside0.mk hc0
 clear hr0 hc0
 have HR1 := Aside0.mk hr1
 have HC1 := Aside0.mk hc1
 clear hr1 hc1
 have HB := Aside0.mk (Below.refl w.heap.size w)
 have H : (spec_l10Refs.l0 k l0 l1 (([] : List ByteArray)) 0) = some r := h
 clear h
 obtain ⟨y255, hy255⟩ : ∃ y_ : List ByteArray, y_ = (([] : List ByteArray)) := ⟨_, rfl⟩
 replace H : (spec_l10Refs.l0 k l0 l1 y255 0) = some r := by first | (rw [hy255]; with_reducible exact H) | (have H2_ := (Option.bind_some _ _).symm.trans H; rw [hy255]; with_reducible exact H2_) | (have H2_ := (Option.bind_some _ _).symm.trans H; with_reducible exact H2_) | with_reducible exact H | (rw [hy255]; exact H) | exact H
 have Ny255 := Aside0.mk hy255
 clear hy255
 have H' := Aside0.mk H
 clear H
 go_enter Tryz.func61, Tryz.ntmps61
 go_wp2_with (first | ((with_reducible refine gate_dst (N := 8) rfl ?_); refine Kd.R_lit Kd.string _ 9 ?hg (N := 8) ?hd (xs := ([] : List ByteArray)) (inner := []) (ok := fun _ => True) (okp := fun _ => True) ?hr ?hp (fun _ hk => hk) trivial (Below.refl _ _) (Nat.le_refl _) (by simp) ?_; (case hd => rfl); (case hg => rfl); (case hr => first | (go_simp; done) | (go_simp; rfl)); (case hp => exact (Reps.none _ _)); intro v256 w3 ho4 hb hg_ hnew_; clear hg_ hnew_; (first | rw [← Ny255.out] at ho4 | (simp only [Int.reduceToNat] at ho4; rw [← Ny255.out] at ho4)); have n0_ := Aside0.mk (Kd.R_lower ho4 (below_size (bw_ HB))); have n1_ := Aside0.mk (below_step (bw_ HB) hb); clear HB; have HO257 := n0_; have HB := n1_; clear n0_ n1_; clear hb ho4))
 repeat (go_quiet (first | ((with_reducible refine gate_dst (N := 8) rfl ?_); refine Kd.R_lit Kd.string _ 9 ?hg (N := 8) ?hd (xs := ([] : List ByteArray)) (inner := []) (ok := fun _ => True) (okp := fun _ => True) ?hr ?hp (fun _ hk => hk) trivial (Below.refl _ _) (Nat.le_refl _) (by simp) ?_; (case hd => rfl); (case hg => rfl); (case hr => first | (go_simp; done) | (go_simp; rfl)); (case hp => exact (Reps.none _ _)); intro v256 w3 ho4 hb hg_ hnew_; clear hg_ hnew_; (first | rw [← Ny255.out] at ho4 | (simp only [Int.reduceToNat] at ho4; rw [← Ny255.out] at ho4)); have n0_ := Aside0.mk (Kd.R_lower ho4 (below_size (bw_ HB))); have n1_ := Aside0.mk (below_step (bw_ HB) hb); clear HB; have HO257 := n0_; have HB := n1_; clear n0_ n1_; clear hb ho4)); try go_wp2_with (first | ((with_reducible refine gate_dst (N := 8) rfl ?_); refine Kd.R_lit Kd.string _ 9 ?hg (N := 8) ?hd (xs := ([] : List ByteArray)) (inner := []) (ok := fun _ => True) (okp := fun _ => True) ?hr ?hp (fun _ hk => hk) trivial (Below.refl _ _) (Nat.le_refl _) (by simp) ?_; (case hd => rfl); (case hg => rfl); (case hr => first | (go_simp; done) | (go_simp; rfl)); (case hp => exact (Reps.none _ _)); intro v256 w3 ho4 hb hg_ hnew_; clear hg_ hnew_; (first | rw [← Ny255.out] at ho4 | (simp only [Int.reduceToNat] at ho4; rw [← Ny255.out] at ho4)); have n0_ := Aside0.mk (Kd.R_lower ho4 (below_size (bw_ HB))); have n1_ := Aside0.mk (below_step (bw_ HB) hb); clear HB; have HO257 := n0_; have HB := n1_; clear n0_ n1_; clear hb ho4)))
 go_loopg [5, 6] k (fun kq v5 v6 w' => ∃ (x5_1 : List ByteArray) (x6_1 : Int), v6 = .int .i64 x6_1 ∧ Aside0 (spec_l10Refs.l0 kq l0 l1 x5_1 x6_1 = some r) ∧ Aside0 (kq ≤ k) ∧ Aside0 (Kd.R Kd.string 9 w' w.heap.size (fun _ => True) v5 x5_1) ∧ Aside0 (Below w.heap.size w w'))
 case atStart => exact ⟨(y255), (0), (by first | rfl | (simp; done) | (simp [*]; done)), H', ⟨Nat.le_refl _⟩, ⟨by (with_reducible repeat (first | apply Kd.R_alloc | apply Kd.R_drewN | apply Kd.R_drew)); exact HO257.out⟩, ⟨bw_ HB⟩⟩
 case round =>
  clear H'
  try clear c1
  try clear p2
  obtain ⟨x5_1, x6_1, rfl, HA, HK1, HO_5, HB⟩ := hrel
  cases gk with
  | zero => exact absurd HA.out (by simp [spec_l10Refs.l0])
  | succ k1 =>
   have H := HA.out
   clear HA
   simp only [spec_l10Refs.l0] at H
   by_cases c5 : x6_1 < (l1.length : Int)
   {
   rw [if_pos c5] at H
   have c5b0 : decide (x6_1 < (l1.length : Int)) = true := decide_eq_true c5
   clear c5
   by_cases c6 : 0 ≤ x6_1
   {
   rw [if_pos c6] at H
   have c6b0 : decide (0 ≤ x6_1) = true := decide_eq_true c6
   clear c6
   replace H := Option.bind_eq_some_iff.mp H
   obtain ⟨t259, A70, H⟩ := H
   have A7 := Aside0.mk A70
   clear A70
   by_cases c8 : t259 = true
   {
   subst c8
   rw [if_pos rfl] at H
   have H' := Aside0.mk H
   clear H
   have p258 : 0 ≤ (x6_1 : Int) := dA_
   have q258 : x6_1 < (l1.length : Int) := dA_
   obtain ⟨ad258, e258, hx258_0⟩ := Kd.at_string HR1.out x6_1 p258 q258
   cases e258
   replace hx258_0 := hX_ HB hx258_0
   replace p258 := eq_true p258
   replace q258 := eq_true q258
   go_wp2_with (first | (go_at_call 43; (with_reducible refine (spec_AddressOk.calls k1 (rdOf ByteArray.empty l1 x6_1) true _ A7.out).mono ?_); rintro e w' ⟨rfl, ⟨nd, rfl⟩⟩; (try first | exact ⟨rfl, _, World.drewN_drewN _ _ _⟩ | exact ⟨rfl, _, Eq.trans (World.drewN_drewN _ _ _) (congrArg (World.drewN _) (Nat.add_assoc _ _ _))⟩)))
   repeat (go_quiet (first | (go_at_call 43; (with_reducible refine (spec_AddressOk.calls k1 (rdOf ByteArray.empty l1 x6_1) true _ A7.out).mono ?_); rintro e w' ⟨rfl, ⟨nd, rfl⟩⟩; (try first | exact ⟨rfl, _, World.drewN_drewN _ _ _⟩ | exact ⟨rfl, _, Eq.trans (World.drewN_drewN _ _ _) (congrArg (World.drewN _) (Nat.add_assoc _ _ _))⟩))); try go_wp2_with (first | (go_at_call 43; (with_reducible refine (spec_AddressOk.calls k1 (rdOf ByteArray.empty l1 x6_1) true _ A7.out).mono ?_); rintro e w' ⟨rfl, ⟨nd, rfl⟩⟩; (try first | exact ⟨rfl, _, World.drewN_drewN _ _ _⟩ | exact ⟨rfl, _, Eq.trans (World.drewN_drewN _ _ _) (congrArg (World.drewN _) (Nat.add_assoc _ _ _))⟩))))
   go_loopg [5, 7] k1 (fun kq v5 v7 w' => ∃ (x5_2 : List ByteArray) (x7_2 : Int), v7 = .int .i64 x7_2 ∧ Aside0 (spec_l10Refs.l1 kq l0 l1 x5_2 x6_1 x7_2 = some r) ∧ Aside0 (kq ≤ k1) ∧ Aside0 (Kd.R Kd.string 9 w' w.heap.size (fun _ => True) v5 x5_2) ∧ Aside0 (Below w.heap.size w w'))
   case atStart => exact ⟨(x5_1), (0), (by first | rfl | (simp; done) | (simp [*]; done)), H', ⟨Nat.le_refl _⟩, ⟨by (with_reducible repeat (first | apply Kd.R_alloc | apply Kd.R_drewN | apply Kd.R_drew)); exact HO_5.out⟩, ⟨bw_ HB⟩⟩
   case round =>
    clear H'
    try clear c1
    try clear p2
    try clear q2
    try clear hx2
    try clear c5
    try clear c5b0
    try clear c6
    try clear c6b0
    try clear p6
    try clear c8
    try clear hx258_0
    try clear p2
    try clear p258
    try clear q258
    obtain ⟨x5_2, x7_2, rfl, HA, HK2, HO_5, HB⟩ := hrel
    cases gk with
    | zero => exact absurd HA.out (by simp [spec_l10Refs.l1])
    | succ k2 =>
     have H := HA.out
     clear HA
     simp only [spec_l10Refs.l1] at H
     by_cases c9 : x7_2 < (l0.length : Int)
     {
     rw [if_pos c9] at H
     have c9b0 : decide (x7_2 < (l0.length : Int)) = true := decide_eq_true c9
     clear c9
     by_cases c10 : 0 ≤ x7_2
     {
     rw [if_pos c10] at H
     have c10b0 : decide (0 ≤ x7_2) = true := decide_eq_true c10
     clear c10
     by_cases c11 : 0 ≤ x6_1
     {
     rw [if_pos c11] at H
     have c11b0 : decide (0 ≤ x6_1) = true := decide_eq_true c11
     clear c11
     by_cases c12 : x6_1 < (l1.length : Int)
     {
     rw [if_pos c12] at H
     have c12b0 : decide (x6_1 < (l1.length : Int)) = true := decide_eq_true c12
     clear c12
     by_cases c13 : 0 ≤ 13
     {
     rw [if_pos c13] at H
     have c13b0 := eq_true c13
     have c13b1 : decide (0 ≤ 13) = true := decide_eq_true c13
     clear c13
     by_cases c14 : 13 ≤ ((rdOf ByteArray.empty l1 x6_1).size : Int)
     {
     rw [if_pos c14] at H
     have c14b0 := eq_true c14
     have c14b1 : decide (13 ≤ ((rdOf ByteArray.empty l1 x6_1).size : Int)) = true := decide_eq_true c14
     clear c14
     replace H := Option.bind_eq_some_iff.mp H
     obtain ⟨t262, A150, H⟩ := H
     have A15 := Aside0.mk A150
     clear A150
     by_cases c16 : t262 = true
     {
     subst c16
     rw [if_pos rfl] at H
     replace H := Option.bind_eq_some_iff.mp H
     obtain ⟨t264, A170, H⟩ := H
     have A17 := Aside0.mk A170
     clear A170
     have H' := Aside0.mk H
     clear H
     have p260 : 0 ≤ (x7_2 : Int) := dA_
     have q260 : x7_2 < (l0.length : Int) := dA_
     obtain ⟨ad260, e260, hx260_0, hx260_1, hx260_2, hx260_3⟩ := at_T70 HR0.out x7_2 p260 q260
     cases e260
     replace hx260_0 := hX_ HB hx260_0
     replace hx260_1 := hX_ HB hx260_1
     replace hx260_2 := hX_ HB hx260_2
     replace hx260_3 := hX_ HB hx260_3
     replace p260 := eq_true p260
     replace q260 := eq_true q260
     have p261 : 0 ≤ (x6_1 : Int) := dA_
     have q261 : x6_1 < (l1.length : Int) := dA_
     obtain ⟨ad261, e261, hx261_0⟩ := Kd.at_string HR1.out x6_1 p261 q261
     obtain rfl : ad258 = ad261 := (by injection e261)
     replace hx261_0 := hX_ HB hx261_0
     replace p261 := eq_true p261
     replace q261 := eq_true q261
     go_wp2_with (first | (go_at_call 84; (with_reducible refine (spec_l10Has.calls k2 ((rd_T70 l0 x7_2).f2) ((rdOf ByteArray.empty l1 x6_1).extract 0 13) true _ A15.out).mono ?_); rintro e w' ⟨rfl, ⟨nd, rfl⟩⟩; (try first | exact ⟨rfl, _, World.drewN_drewN _ _ _⟩ | exact ⟨rfl, _, Eq.trans (World.drewN_drewN _ _ _) (congrArg (World.drewN _) (Nat.add_assoc _ _ _))⟩); have p263 : 0 ≤ (x6_1 : Int) := dA_; have q263 : x6_1 < (l1.length : Int) := dA_; obtain ⟨ad263, e263, hx263_0⟩ := Kd.at_string HR1.out x6_1 p263 q263; obtain rfl : ad258 = ad263 := (by injection e263); replace hx263_0 := hX_ HB hx263_0; replace p263 := eq_true p263; replace q263 := eq_true q263; obtain ⟨Ao18, co18, eo18⟩ := Kd.R_slice HO_5.out; subst eo18) | (go_at_call 65; (with_reducible refine (spec_l3Add.calls k2 (fun k_ => some k_ = (.slice Ao18 x5_2.length co18 : Value).ownBlock) (.slice Ao18 x5_2.length co18) x5_2 (rdOf ByteArray.empty l1 x6_1) t264 w _ ?side1 ?side2 A17.out).mono ?_); (case side1 => repeat (first | (with_reducible first | exact HB.out | apply below_alloc | apply pw_below_drewN | apply below_drew1) | exact HB.out)); (case side2 => exact Kd.R_tight rfl HO_5.out); rintro e w19 ⟨v265, rfl, ho0, hb, hkp⟩; have n0_ := Aside0.mk (Kd.R_mono (ok' := fun k_ => True) ho0 (fun k_ hk_ => trivial)); have n1_ := Aside0.mk (hb); clear HB; clear HO_5; have HO266 := n0_; have HB := n1_; clear n0_ n1_; (try clear hb); (try clear hkp); (try clear ho0)))
     repeat (go_quiet (first | (go_at_call 84; (with_reducible refine (spec_l10Has.calls k2 ((rd_T70 l0 x7_2).f2) ((rdOf ByteArray.empty l1 x6_1).extract 0 13) true _ A15.out).mono ?_); rintro e w' ⟨rfl, ⟨nd, rfl⟩⟩; (try first | exact ⟨rfl, _, World.drewN_drewN _ _ _⟩ | exact ⟨rfl, _, Eq.trans (World.drewN_drewN _ _ _) (congrArg (World.drewN _) (Nat.add_assoc _ _ _))⟩); have p263 : 0 ≤ (x6_1 : Int) := dA_; have q263 : x6_1 < (l1.length : Int) := dA_; obtain ⟨ad263, e263, hx263_0⟩ := Kd.at_string HR1.out x6_1 p263 q263; obtain rfl : ad258 = ad263 := (by injection e263); replace hx263_0 := hX_ HB hx263_0; replace p263 := eq_true p263; replace q263 := eq_true q263; obtain ⟨Ao18, co18, eo18⟩ := Kd.R_slice HO_5.out; subst eo18) | (go_at_call 65; (with_reducible refine (spec_l3Add.calls k2 (fun k_ => some k_ = (.slice Ao18 x5_2.length co18 : Value).ownBlock) (.slice Ao18 x5_2.length co18) x5_2 (rdOf ByteArray.empty l1 x6_1) t264 w _ ?side1 ?side2 A17.out).mono ?_); (case side1 => repeat (first | (with_reducible first | exact HB.out | apply below_alloc | apply pw_below_drewN | apply below_drew1) | exact HB.out)); (case side2 => exact Kd.R_tight rfl HO_5.out); rintro e w19 ⟨v265, rfl, ho0, hb, hkp⟩; have n0_ := Aside0.mk (Kd.R_mono (ok' := fun k_ => True) ho0 (fun k_ hk_ => trivial)); have n1_ := Aside0.mk (hb); clear HB; clear HO_5; have HO266 := n0_; have HB := n1_; clear n0_ n1_; (try clear hb); (try clear hkp); (try clear ho0))); try go_wp2_with (first | (go_at_call 84; (with_reducible refine (spec_l10Has.calls k2 ((rd_T70 l0 x7_2).f2) ((rdOf ByteArray.empty l1 x6_1).extract 0 13) true _ A15.out).mono ?_); rintro e w' ⟨rfl, ⟨nd, rfl⟩⟩; (try first | exact ⟨rfl, _, World.drewN_drewN _ _ _⟩ | exact ⟨rfl, _, Eq.trans (World.drewN_drewN _ _ _) (congrArg (World.drewN _) (Nat.add_assoc _ _ _))⟩); have p263 : 0 ≤ (x6_1 : Int) := dA_; have q263 : x6_1 < (l1.length : Int) := dA_; obtain ⟨ad263, e263, hx263_0⟩ := Kd.at_string HR1.out x6_1 p263 q263; obtain rfl : ad258 = ad263 := (by injection e263); replace hx263_0 := hX_ HB hx263_0; replace p263 := eq_true p263; replace q263 := eq_true q263; obtain ⟨Ao18, co18, eo18⟩ := Kd.R_slice HO_5.out; subst eo18) | (go_at_call 65; (with_reducible refine (spec_l3Add.calls k2 (fun k_ => some k_ = (.slice Ao18 x5_2.length co18 : Value).ownBlock) (.slice Ao18 x5_2.length co18) x5_2 (rdOf ByteArray.empty l1 x6_1) t264 w _ ?side1 ?side2 A17.out).mono ?_); (case side1 => repeat (first | (with_reducible first | exact HB.out | apply below_alloc | apply pw_below_drewN | apply below_drew1) | exact HB.out)); (case side2 => exact Kd.R_tight rfl HO_5.out); rintro e w19 ⟨v265, rfl, ho0, hb, hkp⟩; have n0_ := Aside0.mk (Kd.R_mono (ok' := fun k_ => True) ho0 (fun k_ hk_ => trivial)); have n1_ := Aside0.mk (hb); clear HB; clear HO_5; have HO266 := n0_; have HB := n1_; clear n0_ n1_; (try clear hb); (try clear hkp); (try clear ho0))))
     go_roundg k2
     case measure => have := HK1.out; have := HK2.out; omega
     case rel => exact ⟨(t264), (wrap64 (x6_1 + 1)), (by first | rfl | (simp; done) | (simp [*]; done)), H', ⟨by have := HK1.out; have := HK2.out; omega⟩, ⟨by (with_reducible repeat (first | apply Kd.R_alloc | apply Kd.R_drewN | apply Kd.R_drew)); exact HO266.out⟩, ⟨bw_ HB⟩⟩}
     {
     replace c16 := Bool.eq_false_iff.mpr c16
     subst c16
     rw [if_neg (show ¬ (false = true) by decide)] at H
     have H' := Aside0.mk H
     clear H
     have p260 : 0 ≤ (x7_2 : Int) := dA_
     have q260 : x7_2 < (l0.length : Int) := dA_
     obtain ⟨ad260, e260, hx260_0, hx260_1, hx260_2, hx260_3⟩ := at_T70 HR0.out x7_2 p260 q260
     cases e260
     replace hx260_0 := hX_ HB hx260_0
     replace hx260_1 := hX_ HB hx260_1
     replace hx260_2 := hX_ HB hx260_2
     replace hx260_3 := hX_ HB hx260_3
     replace p260 := eq_true p260
     replace q260 := eq_true q260
     have p261 : 0 ≤ (x6_1 : Int) := dA_
     have q261 : x6_1 < (l1.length : Int) := dA_
     obtain ⟨ad261, e261, hx261_0⟩ := Kd.at_string HR1.out x6_1 p261 q261
     obtain rfl : ad258 = ad261 := (by injection e261)
     replace hx261_0 := hX_ HB hx261_0
     replace p261 := eq_true p261
     replace q261 := eq_true q261
     go_wp2_with (first | (go_at_call 84; (with_reducible refine (spec_l10Has.calls k2 ((rd_T70 l0 x7_2).f2) ((rdOf ByteArray.empty l1 x6_1).extract 0 13) false _ A15.out).mono ?_); rintro e w' ⟨rfl, ⟨nd, rfl⟩⟩; (try first | exact ⟨rfl, _, World.drewN_drewN _ _ _⟩ | exact ⟨rfl, _, Eq.trans (World.drewN_drewN _ _ _) (congrArg (World.drewN _) (Nat.add_assoc _ _ _))⟩)))
     repeat (go_quiet (first | (go_at_call 84; (with_reducible refine (spec_l10Has.calls k2 ((rd_T70 l0 x7_2).f2) ((rdOf ByteArray.empty l1 x6_1).extract 0 13) false _ A15.out).mono ?_); rintro e w' ⟨rfl, ⟨nd, rfl⟩⟩; (try first | exact ⟨rfl, _, World.drewN_drewN _ _ _⟩ | exact ⟨rfl, _, Eq.trans (World.drewN_drewN _ _ _) (congrArg (World.drewN _) (Nat.add_assoc _ _ _))⟩))); try go_wp2_with (first | (go_at_call 84; (with_reducible refine (spec_l10Has.calls k2 ((rd_T70 l0 x7_2).f2) ((rdOf ByteArray.empty l1 x6_1).extract 0 13) false _ A15.out).mono ?_); rintro e w' ⟨rfl, ⟨nd, rfl⟩⟩; (try first | exact ⟨rfl, _, World.drewN_drewN _ _ _⟩ | exact ⟨rfl, _, Eq.trans (World.drewN_drewN _ _ _) (congrArg (World.drewN _) (Nat.add_assoc _ _ _))⟩))))
     go_roundg k2
     case measure => have := HK1.out; have := HK2.out; omega
     case rel => exact ⟨(x5_2), (wrap64 (x7_2 + 1)), (by first | rfl | (simp; done) | (simp [*]; done)), H', ⟨by have := HK1.out; have := HK2.out; omega⟩, ⟨by (with_reducible repeat (first | apply Kd.R_alloc | apply Kd.R_drewN | apply Kd.R_drew)); exact HO_5.out⟩, ⟨bw_ HB⟩⟩}}
     {
     rw [if_neg c14] at H
     exact absurd H (by simp)}}
     {
     rw [if_neg c13] at H
     exact absurd H (by simp)}}
     {
     rw [if_neg c12] at H
     exact absurd H (by simp)}}
     {
     rw [if_neg c11] at H
     exact absurd H (by simp)}}
     {
     rw [if_neg c10] at H
     exact absurd H (by simp)}}
     {
     rw [if_neg c9] at H
     have c9b0 : decide (x7_2 < (l0.length : Int)) = false := decide_eq_false c9
     clear c9
     have H' := Aside0.mk H
     clear H
     go_wp2
     repeat (go_quiet (fail); try go_wp2)
     go_roundg k2
     case measure => have := HK1.out; have := HK2.out; omega
     case rel => exact ⟨(x5_2), (wrap64 (x6_1 + 1)), (by first | rfl | (simp; done) | (simp [*]; done)), H', ⟨by have := HK1.out; have := HK2.out; omega⟩, ⟨by (with_reducible repeat (first | apply Kd.R_alloc | apply Kd.R_drewN | apply Kd.R_drew)); exact HO_5.out⟩, ⟨bw_ HB⟩⟩}}
   {
   replace c8 := Bool.eq_false_iff.mpr c8
   subst c8
   rw [if_neg (show ¬ (false = true) by decide)] at H
   have H' := Aside0.mk H
   clear H
   have p258 : 0 ≤ (x6_1 : Int) := dA_
   have q258 : x6_1 < (l1.length : Int) := dA_
   obtain ⟨ad258, e258, hx258_0⟩ := Kd.at_string HR1.out x6_1 p258 q258
   cases e258
   replace hx258_0 := hX_ HB hx258_0
   replace p258 := eq_true p258
   replace q258 := eq_true q258
   go_wp2_with (first | (go_at_call 43; (with_reducible refine (spec_AddressOk.calls k1 (rdOf ByteArray.empty l1 x6_1) false _ A7.out).mono ?_); rintro e w' ⟨rfl, ⟨nd, rfl⟩⟩; (try first | exact ⟨rfl, _, World.drewN_drewN _ _ _⟩ | exact ⟨rfl, _, Eq.trans (World.drewN_drewN _ _ _) (congrArg (World.drewN _) (Nat.add_assoc _ _ _))⟩)))
   repeat (go_quiet (first | (go_at_call 43; (with_reducible refine (spec_AddressOk.calls k1 (rdOf ByteArray.empty l1 x6_1) false _ A7.out).mono ?_); rintro e w' ⟨rfl, ⟨nd, rfl⟩⟩; (try first | exact ⟨rfl, _, World.drewN_drewN _ _ _⟩ | exact ⟨rfl, _, Eq.trans (World.drewN_drewN _ _ _) (congrArg (World.drewN _) (Nat.add_assoc _ _ _))⟩))); try go_wp2_with (first | (go_at_call 43; (with_reducible refine (spec_AddressOk.calls k1 (rdOf ByteArray.empty l1 x6_1) false _ A7.out).mono ?_); rintro e w' ⟨rfl, ⟨nd, rfl⟩⟩; (try first | exact ⟨rfl, _, World.drewN_drewN _ _ _⟩ | exact ⟨rfl, _, Eq.trans (World.drewN_drewN _ _ _) (congrArg (World.drewN _) (Nat.add_assoc _ _ _))⟩))))
   go_roundg k1
   case measure => have := HK1.out; omega
   case rel => exact ⟨(x5_1), (wrap64 (x6_1 + 1)), (by first | rfl | (simp; done) | (simp [*]; done)), H', ⟨by have := HK1.out; omega⟩, ⟨by (with_reducible repeat (first | apply Kd.R_alloc | apply Kd.R_drewN | apply Kd.R_drew)); exact HO_5.out⟩, ⟨bw_ HB⟩⟩}}
   {
   rw [if_neg c6] at H
   exact absurd H (by simp)}}
   {
   rw [if_neg c5] at H
   have c5b0 : decide (x6_1 < (l1.length : Int)) = false := decide_eq_false c5
   clear c5
   obtain rfl := Option.some.inj H
   go_wp2
   repeat (go_quiet (fail); try go_wp2)
   go_ret
   exact ⟨_, eR_, by (with_reducible repeat (first | apply Kd.R_alloc | apply Kd.R_drewN | apply Kd.R_drew)); exact HO_5.out, bw_ HB⟩
}
end Go.Proofs.YtkhhkpjeafknpaaGreatDoor.P
end

section
namespace Go.Proofs.YtkhhkpjeafknpaaGreatDoor.P
open Go.RowKit Go.Proofs.YtkhhkpjeafknpaaGreatDoorW.PrintWords Go.Proofs.YtkhhkpjeafknpaaGreatDoorW.PrintLast Go.Proofs.YtkhhkpjeafknpaaGreatDoorW.PrintMore Go.Proofs.YtkhhkpjeafknpaaGreatDoorM
attribute [local go_sem] max2_int min2_int max_two min_two max_three min_three max_four min_four
set_option linter.unusedVariables false
set_option linter.unusedSimpArgs false
mutual
def impl_RefsIn.j0 : Nat → List (S70) → List ByteArray → Bool → Option (List ByteArray)
 | 0, _, _, _ => none
 | k + 1, x0, x1, x17 => if x17 = true then (some ([] : List ByteArray)) else (impl_RefsIn.l0 k x0 (([] : List (ByteArray × Int))) x1 (x1.length : Int) 0)
def impl_RefsIn.l0 : Nat → List (S70) → List (ByteArray × Int) → List ByteArray → Int → Int → Option (List ByteArray)
 | 0, _, _, _, _, _ => none
 | k + 1, x0, x5, x19, x20, x21 => if x21 < x20 then (if 0 ≤ x21 then (if x21 < (x19.length : Int) then ((impl_AddressOk.f k (rdOf ByteArray.empty x19 x21)).bind fun t428 => (if t428 = true then (impl_RefsIn.l1 k x0 x5 (rdOf ByteArray.empty x19 x21) x19 x20 x21 x0 (x0.length : Int) 0) else (impl_RefsIn.l0 k x0 x5 x19 x20 (wrap64 (x21 + 1))))) else (none)) else (none)) else ((impl_sorted.f x5).bind fun t424 => (some t424))
def impl_RefsIn.l1 : Nat → List (S70) → List (ByteArray × Int) → ByteArray → List ByteArray → Int → Int → List (S70) → Int → Int → Option (List ByteArray)
 | 0, _, _, _, _, _, _, _, _, _ => none
 | k + 1, x0, x5, x7, x19, x20, x21, x28, x29, x30 => if x30 < x29 then (if 0 ≤ x30 then (if x30 < (x28.length : Int) then (if 0 ≤ 13 then (if 13 ≤ (x7.size : Int) then ((strings_Contains.f ((rd_T70 x28 x30).f2) (x7.extract 0 13)).bind fun t431 => (if t431 = true then (if x5.length < 1099511627776 then (if x7.size ≤ 9223372036854775807 then (impl_RefsIn.l0 k x0 (x5 ++ [(x7, 1)]) x19 x20 (wrap64 (x21 + 1))) else (none)) else (none)) else (impl_RefsIn.l1 k x0 x5 x7 x19 x20 x21 x28 x29 (wrap64 (x30 + 1))))) else (none)) else (none)) else (none)) else (none)) else (impl_RefsIn.l0 k x0 x5 x19 x20 (wrap64 (x21 + 1)))
end
def impl_RefsIn.f (k : Nat) (l0 : List (S70)) (l1 : List ByteArray) : Option (List ByteArray) := (impl_TreeOk.f k l0).bind fun t420 => (if t420 = true then (impl_RefsIn.j0 k l0 l1 (decide ((l1.length : Int) > 2000))) else (impl_RefsIn.j0 k l0 l1 true))
theorem impl_RefsIn.mono_l : ∀ k, (∀ y0 y1 y2, LeO (impl_RefsIn.j0 k y0 y1 y2) (impl_RefsIn.j0 (k + 1) y0 y1 y2)) ∧ (∀ y0 y1 y2 y3 y4, LeO (impl_RefsIn.l0 k y0 y1 y2 y3 y4) (impl_RefsIn.l0 (k + 1) y0 y1 y2 y3 y4)) ∧ (∀ y0 y1 y2 y3 y4 y5 y6 y7 y8, LeO (impl_RefsIn.l1 k y0 y1 y2 y3 y4 y5 y6 y7 y8) (impl_RefsIn.l1 (k + 1) y0 y1 y2 y3 y4 y5 y6 y7 y8))
 | 0 => ⟨fun _ _ _ r h => by simp [impl_RefsIn.j0] at h, fun _ _ _ _ _ r h => by simp [impl_RefsIn.l0] at h, fun _ _ _ _ _ _ _ _ _ r h => by simp [impl_RefsIn.l1] at h⟩
 | k + 1 => by
  obtain ⟨ih0, ih1, ih2⟩ := impl_RefsIn.mono_l k
  refine ⟨?_, ?_, ?_⟩
  {
  intro y0 y1 y2
  unfold impl_RefsIn.j0
  repeat' first
  | (with_reducible exact ih0 _ _ _)
  | (with_reducible exact ih1 _ _ _ _ _)
  | (with_reducible exact ih2 _ _ _ _ _ _ _ _ _)
  | (with_reducible exact impl_AddressOk.mono _ _)
  | (with_reducible exact impl_TreeOk.mono _ _)
  | (with_reducible exact LeO.refl _)
  | (with_reducible exact LeO.none _)
  | (with_reducible refine LeO.ite ?_ ?_)
  | (with_reducible refine LeO.bind ?_ (fun _ => ?_))
  | exact ih0 _ _ _
  | exact ih1 _ _ _ _ _
  | exact ih2 _ _ _ _ _ _ _ _ _
  | exact impl_AddressOk.mono _ _
  | exact impl_TreeOk.mono _ _
  | exact LeO.none _
  | refine LeO.ite ?_ ?_
  | refine LeO.bind ?_ (fun _ => ?_)}
  {
  intro y0 y1 y2 y3 y4
  unfold impl_RefsIn.l0
  repeat' first
  | (with_reducible exact ih0 _ _ _)
  | (with_reducible exact ih1 _ _ _ _ _)
  | (with_reducible exact ih2 _ _ _ _ _ _ _ _ _)
  | (with_reducible exact impl_AddressOk.mono _ _)
  | (with_reducible exact impl_TreeOk.mono _ _)
  | (with_reducible exact LeO.refl _)
  | (with_reducible exact LeO.none _)
  | (with_reducible refine LeO.ite ?_ ?_)
  | (with_reducible refine LeO.bind ?_ (fun _ => ?_))
  | exact ih0 _ _ _
  | exact ih1 _ _ _ _ _
  | exact ih2 _ _ _ _ _ _ _ _ _
  | exact impl_AddressOk.mono _ _
  | exact impl_TreeOk.mono _ _
  | exact LeO.none _
  | refine LeO.ite ?_ ?_
  | refine LeO.bind ?_ (fun _ => ?_)}
  {
  intro y0 y1 y2 y3 y4 y5 y6 y7 y8
  unfold impl_RefsIn.l1
  repeat' first
  | (with_reducible exact ih0 _ _ _)
  | (with_reducible exact ih1 _ _ _ _ _)
  | (with_reducible exact ih2 _ _ _ _ _ _ _ _ _)
  | (with_reducible exact impl_AddressOk.mono _ _)
  | (with_reducible exact impl_TreeOk.mono _ _)
  | (with_reducible exact LeO.refl _)
  | (with_reducible exact LeO.none _)
  | (with_reducible refine LeO.ite ?_ ?_)
  | (with_reducible refine LeO.bind ?_ (fun _ => ?_))
  | exact ih0 _ _ _
  | exact ih1 _ _ _ _ _
  | exact ih2 _ _ _ _ _ _ _ _ _
  | exact impl_AddressOk.mono _ _
  | exact impl_TreeOk.mono _ _
  | exact LeO.none _
  | refine LeO.ite ?_ ?_
  | refine LeO.bind ?_ (fun _ => ?_)}
theorem impl_RefsIn.mono : ∀ a0 a1 k, LeO (impl_RefsIn.f k a0 a1) (impl_RefsIn.f (k + 1) a0 a1) := by
 intro a0 a1 k
 obtain ⟨ih0, ih1, ih2⟩ := impl_RefsIn.mono_l k
 unfold impl_RefsIn.f
 repeat' first
  | (with_reducible exact ih0 _ _ _)
  | (with_reducible exact ih1 _ _ _ _ _)
  | (with_reducible exact ih2 _ _ _ _ _ _ _ _ _)
  | (with_reducible exact impl_AddressOk.mono _ _)
  | (with_reducible exact impl_TreeOk.mono _ _)
  | (with_reducible exact LeO.refl _)
  | (with_reducible exact LeO.none _)
  | (with_reducible refine LeO.ite ?_ ?_)
  | (with_reducible refine LeO.bind ?_ (fun _ => ?_))
  | exact ih0 _ _ _
  | exact ih1 _ _ _ _ _
  | exact ih2 _ _ _ _ _ _ _ _ _
  | exact impl_AddressOk.mono _ _
  | exact impl_TreeOk.mono _ _
  | exact LeO.none _
  | refine LeO.ite ?_ ?_
  | refine LeO.bind ?_ (fun _ => ?_)
set_option maxHeartbeats 8000000 in
set_option maxRecDepth 100000 in
theorem impl_RefsIn.calls (k : Nat) (A0 : Option Addr) (c0 : Nat) (l0 : List (S70)) (A1 : Option Addr) (c1 : Nat) (l1 : List ByteArray) (r : List ByteArray) (w : World) (hE : EnvW w) (hr0 : Kd.C k70 w A0 l0.length l0) (hc0 : l0.length ≤ c0) (hr1 : Kd.C Kd.string w A1 l1.length l1) (hc1 : l1.length ≤ c1) (h : impl_RefsIn.f k l0 l1 = some r) :
 Calls Tryz.prog 52 #[.slice A0 l0.length c0, .slice A1 l1.length c1] w fun e w' => ∃ v0_ : Value, e = .returned (v0_) ∧ Kd.R Kd.string 9 w' w.heap.size (fun _ => True) v0_ r ∧ Below w.heap.size w w' := by
 have hu70 := Tryz.underlying70
 have HE := Aside0.mk hE
 clear hE
 have HR0 := Aside0.mk hr0
 have HC0 := Aside0.mk hc0
 clear hr0 hc0
 have HR1 := Aside0.mk hr1
 have HC1 := Aside0.mk hc1
 clear hr1 hc1
 have HB := Aside0.mk (Below.refl w.heap.size w)
 have H : ((impl_TreeOk.f k l0).bind fun t420 => (if t420 = true then (impl_RefsIn.j0 k l0 l1 (decide ((l1.length : Int) > 2000))) else (impl_RefsIn.j0 k l0 l1 true))) = some r := h
 clear h
 have HC3 := Aside0.mk H
 clear H
 go_enter Tryz.func52, Tryz.ntmps52
 go_upto_region 1 with (fail)
 repeat (go_quiet (fail); go_upto_region 1 with (fail))
 go_cut [17] (fun v17 wc => ∃ (kq : Nat) (x17_2 : Bool), v17 = .bool x17_2 ∧ Aside0 (impl_RefsIn.j0 kq l0 l1 x17_2 = some r) ∧ Aside0 (kq ≤ k) ∧ Aside0 (Below w.heap.size w wc))
 case first =>
  have H := HC3.out
  clear HC3
  replace H := Option.bind_eq_some_iff.mp H
  obtain ⟨t420, A40, H⟩ := H
  have A4 := Aside0.mk A40
  clear A40
  by_cases c5 : t420 = true
  {
  subst c5
  rw [if_pos rfl] at H
  have H' := Aside0.mk H
  clear H
  go_wp2_with (first | (go_at_call 63; (with_reducible refine (impl_TreeOk.calls k _ _ l0 true _ ?side1 ?side2 ?side3 A4.out).mono ?_); (case side1 => refine EnvW.below HE.out ?_; repeat (first | (with_reducible first | exact HB.out | apply below_alloc | apply pw_below_drewN | apply below_drew1) | exact HB.out)); (case side2 => exact cS_ HR0 HB); (case side3 => exact HC0.out); rintro e w6 ⟨rfl, hb⟩; have n0_ := Aside0.mk (below_step (bw_ HB) hb); clear HB; have HB := n0_; clear n0_; (try clear hb); (try clear hb2); (try clear hk); (try clear hi)))
  repeat (go_quiet (first | (go_at_call 63; (with_reducible refine (impl_TreeOk.calls k _ _ l0 true _ ?side1 ?side2 ?side3 A4.out).mono ?_); (case side1 => refine EnvW.below HE.out ?_; repeat (first | (with_reducible first | exact HB.out | apply below_alloc | apply pw_below_drewN | apply below_drew1) | exact HB.out)); (case side2 => exact cS_ HR0 HB); (case side3 => exact HC0.out); rintro e w6 ⟨rfl, hb⟩; have n0_ := Aside0.mk (below_step (bw_ HB) hb); clear HB; have HB := n0_; clear n0_; (try clear hb); (try clear hb2); (try clear hk); (try clear hi))); try go_wp2_with (first | (go_at_call 63; (with_reducible refine (impl_TreeOk.calls k _ _ l0 true _ ?side1 ?side2 ?side3 A4.out).mono ?_); (case side1 => refine EnvW.below HE.out ?_; repeat (first | (with_reducible first | exact HB.out | apply below_alloc | apply pw_below_drewN | apply below_drew1) | exact HB.out)); (case side2 => exact cS_ HR0 HB); (case side3 => exact HC0.out); rintro e w6 ⟨rfl, hb⟩; have n0_ := Aside0.mk (below_step (bw_ HB) hb); clear HB; have HB := n0_; clear n0_; (try clear hb); (try clear hb2); (try clear hk); (try clear hi))))
  go_meet
  case rel => exact ⟨_, (decide ((l1.length : Int) > 2000)), (by first | rfl | (simp; done) | (simp [*]; done)), H', ⟨by first | omega | exact Nat.le_refl _⟩, ⟨bw_ HB⟩⟩}
  {
  replace c5 := Bool.eq_false_iff.mpr c5
  subst c5
  rw [if_neg (show ¬ (false = true) by decide)] at H
  have H' := Aside0.mk H
  clear H
  go_wp2_with (first | (go_at_call 63; (with_reducible refine (impl_TreeOk.calls k _ _ l0 false _ ?side1 ?side2 ?side3 A4.out).mono ?_); (case side1 => refine EnvW.below HE.out ?_; repeat (first | (with_reducible first | exact HB.out | apply below_alloc | apply pw_below_drewN | apply below_drew1) | exact HB.out)); (case side2 => exact cS_ HR0 HB); (case side3 => exact HC0.out); rintro e w7 ⟨rfl, hb⟩; have n0_ := Aside0.mk (below_step (bw_ HB) hb); clear HB; have HB := n0_; clear n0_; (try clear hb); (try clear hb2); (try clear hk); (try clear hi)))
  repeat (go_quiet (first | (go_at_call 63; (with_reducible refine (impl_TreeOk.calls k _ _ l0 false _ ?side1 ?side2 ?side3 A4.out).mono ?_); (case side1 => refine EnvW.below HE.out ?_; repeat (first | (with_reducible first | exact HB.out | apply below_alloc | apply pw_below_drewN | apply below_drew1) | exact HB.out)); (case side2 => exact cS_ HR0 HB); (case side3 => exact HC0.out); rintro e w7 ⟨rfl, hb⟩; have n0_ := Aside0.mk (below_step (bw_ HB) hb); clear HB; have HB := n0_; clear n0_; (try clear hb); (try clear hb2); (try clear hk); (try clear hi))); try go_wp2_with (first | (go_at_call 63; (with_reducible refine (impl_TreeOk.calls k _ _ l0 false _ ?side1 ?side2 ?side3 A4.out).mono ?_); (case side1 => refine EnvW.below HE.out ?_; repeat (first | (with_reducible first | exact HB.out | apply below_alloc | apply pw_below_drewN | apply below_drew1) | exact HB.out)); (case side2 => exact cS_ HR0 HB); (case side3 => exact HC0.out); rintro e w7 ⟨rfl, hb⟩; have n0_ := Aside0.mk (below_step (bw_ HB) hb); clear HB; have HB := n0_; clear n0_; (try clear hb); (try clear hb2); (try clear hk); (try clear hi))))
  go_meet
  case rel => exact ⟨_, (true), (by first | rfl | (simp; done) | (simp [*]; done)), H', ⟨by first | omega | exact Nat.le_refl _⟩, ⟨bw_ HB⟩⟩}
 case rest =>
  clear HC3
  try clear c1
  try clear p2
  try clear c5
  obtain ⟨kq, x17_2, rfl, HA, HJ2, HB⟩ := hcut
  cases kq with
  | zero => exact absurd HA.out (by simp [impl_RefsIn.j0])
  | succ kj2 =>
   have H := HA.out
   clear HA
   simp only [impl_RefsIn.j0] at H
   by_cases c8 : x17_2 = true
   {
   subst c8
   rw [if_pos rfl] at H
   obtain rfl := Option.some.inj H
   go_wp2
   repeat (go_quiet (fail); try go_wp2)
   go_ret
   exact ⟨_, eR_, by first | exact Kd.R_nil _ _ _ _ _ | exact Kd.N_nil _ _ _ _ _ | exact Kd.V_nil _ _ _ _ _ | exact Kd.Q_nil _ _ _ _ _ | exact Kd.S_nil _ _ _ _ _, bw_ HB⟩}
   {
   replace c8 := Bool.eq_false_iff.mpr c8
   subst c8
   rw [if_neg (show ¬ (false = true) by decide)] at H
   obtain ⟨y421, hy421⟩ : ∃ y_ : List (ByteArray × Int), y_ = (([] : List (ByteArray × Int))) := ⟨_, rfl⟩
   replace H : (impl_RefsIn.l0 kj2 l0 y421 l1 (l1.length : Int) 0) = some r := by first | (rw [hy421]; with_reducible exact H) | (have H2_ := (Option.bind_some _ _).symm.trans H; rw [hy421]; with_reducible exact H2_) | (have H2_ := (Option.bind_some _ _).symm.trans H; with_reducible exact H2_) | with_reducible exact H | (rw [hy421]; exact H) | exact H
   have Ny421 := Aside0.mk hy421
   clear hy421
   have H' := Aside0.mk H
   clear H
   go_wp2_with (first | ((with_reducible refine gate_dst (N := 18) rfl ?_); (try (refine gate_guard (by rfl) ?_; dsimp only)); refine map_new (kkStr Tryz.prog 9 Tryz.underlying9) ekI64 rfl (N := 18) rfl 92 rfl ?_; intro gm423 gg10 w9 hmp hb; rw [← Ny421.out] at hmp; have n0_ := Aside0.mk (below_step (bw_ HB) hb); have n1_ := Aside0.mk (hmp); have n2_ := Aside0.mk ((by rw [gg10]; exact (below_size (bw_ HB)) : w.heap.size ≤ gm423)); clear HB; have HB := n0_; have HM422 := n1_; have GMgm423 := n2_; clear n0_ n1_ n2_; clear hb hmp gg10))
   repeat (go_quiet (first | ((with_reducible refine gate_dst (N := 18) rfl ?_); (try (refine gate_guard (by rfl) ?_; dsimp only)); refine map_new (kkStr Tryz.prog 9 Tryz.underlying9) ekI64 rfl (N := 18) rfl 92 rfl ?_; intro gm423 gg10 w9 hmp hb; rw [← Ny421.out] at hmp; have n0_ := Aside0.mk (below_step (bw_ HB) hb); have n1_ := Aside0.mk (hmp); have n2_ := Aside0.mk ((by rw [gg10]; exact (below_size (bw_ HB)) : w.heap.size ≤ gm423)); clear HB; have HB := n0_; have HM422 := n1_; have GMgm423 := n2_; clear n0_ n1_ n2_; clear hb hmp gg10)); try go_wp2_with (first | ((with_reducible refine gate_dst (N := 18) rfl ?_); (try (refine gate_guard (by rfl) ?_; dsimp only)); refine map_new (kkStr Tryz.prog 9 Tryz.underlying9) ekI64 rfl (N := 18) rfl 92 rfl ?_; intro gm423 gg10 w9 hmp hb; rw [← Ny421.out] at hmp; have n0_ := Aside0.mk (below_step (bw_ HB) hb); have n1_ := Aside0.mk (hmp); have n2_ := Aside0.mk ((by rw [gg10]; exact (below_size (bw_ HB)) : w.heap.size ≤ gm423)); clear HB; have HB := n0_; have HM422 := n1_; have GMgm423 := n2_; clear n0_ n1_ n2_; clear hb hmp gg10)))
   go_loopg [21] kj2 (fun kq v21 w' => ∃ (x5_2 : List (ByteArray × Int)) (x21_2 : Int), v21 = .int .i64 x21_2 ∧ Aside0 (impl_RefsIn.l0 kq l0 x5_2 l1 (l1.length : Int) x21_2 = some r) ∧ Aside0 (kq ≤ kj2) ∧ Aside0 (MapAt (kkStr Tryz.prog 9 Tryz.underlying9) ekI64 w' gm423 x5_2) ∧ Aside0 (Below w.heap.size w w'))
   case atStart => exact ⟨(y421), (0), (by first | rfl | (simp; done) | (simp [*]; done)), H', ⟨Nat.le_refl _⟩, ⟨show MapAt (kkStr Tryz.prog 9 Tryz.underlying9) ekI64 _ gm423 y421 from by (with_reducible repeat (first | refine MapAt.alloc ?_ _ | refine MapAt.drewN ?_ _ | refine MapAt.drew ?_)); exact HM422.out⟩, ⟨bw_ HB⟩⟩
   case round =>
    clear H'
    try clear c1
    try clear p2
    try clear c5
    try clear c8
    try clear p2
    obtain ⟨x5_2, x21_2, rfl, HA, HK2, HM_5, HB⟩ := hrel
    cases gk with
    | zero => exact absurd HA.out (by simp [impl_RefsIn.l0])
    | succ k2 =>
     have H := HA.out
     clear HA
     simp only [impl_RefsIn.l0] at H
     by_cases c11 : x21_2 < (l1.length : Int)
     {
     rw [if_pos c11] at H
     have c11b0 : decide (x21_2 < (l1.length : Int)) = true := decide_eq_true c11
     clear c11
     by_cases c12 : 0 ≤ x21_2
     {
     rw [if_pos c12] at H
     have c12b0 : decide (0 ≤ x21_2) = true := decide_eq_true c12
     clear c12
     by_cases c13 : x21_2 < (l1.length : Int)
     {
     rw [if_pos c13] at H
     have c13b0 : decide (x21_2 < (l1.length : Int)) = true := decide_eq_true c13
     clear c13
     replace H := Option.bind_eq_some_iff.mp H
     obtain ⟨t428, A140, H⟩ := H
     have A14 := Aside0.mk A140
     clear A140
     by_cases c15 : t428 = true
     {
     subst c15
     rw [if_pos rfl] at H
     have H' := Aside0.mk H
     clear H
     have p427 : 0 ≤ (x21_2 : Int) := dA_
     have q427 : x21_2 < (l1.length : Int) := dA_
     obtain ⟨ad427, e427, hx427_0⟩ := Kd.at_string HR1.out x21_2 p427 q427
     cases e427
     replace hx427_0 := hX_ HB hx427_0
     replace p427 := eq_true p427
     replace q427 := eq_true q427
     go_wp2_with (first | (go_at_call 62; (with_reducible refine (impl_AddressOk.calls k2 (rdOf ByteArray.empty l1 x21_2) true _ A14.out).mono ?_); rintro e w' ⟨rfl, ⟨nd, rfl⟩⟩; (try first | exact ⟨rfl, _, World.drewN_drewN _ _ _⟩ | exact ⟨rfl, _, Eq.trans (World.drewN_drewN _ _ _) (congrArg (World.drewN _) (Nat.add_assoc _ _ _))⟩)))
     repeat (go_quiet (first | (go_at_call 62; (with_reducible refine (impl_AddressOk.calls k2 (rdOf ByteArray.empty l1 x21_2) true _ A14.out).mono ?_); rintro e w' ⟨rfl, ⟨nd, rfl⟩⟩; (try first | exact ⟨rfl, _, World.drewN_drewN _ _ _⟩ | exact ⟨rfl, _, Eq.trans (World.drewN_drewN _ _ _) (congrArg (World.drewN _) (Nat.add_assoc _ _ _))⟩))); try go_wp2_with (first | (go_at_call 62; (with_reducible refine (impl_AddressOk.calls k2 (rdOf ByteArray.empty l1 x21_2) true _ A14.out).mono ?_); rintro e w' ⟨rfl, ⟨nd, rfl⟩⟩; (try first | exact ⟨rfl, _, World.drewN_drewN _ _ _⟩ | exact ⟨rfl, _, Eq.trans (World.drewN_drewN _ _ _) (congrArg (World.drewN _) (Nat.add_assoc _ _ _))⟩))))
     go_loopg [30] k2 (fun kq v30 w' => ∃ (x5_3 : List (ByteArray × Int)) (x30_3 : Int), v30 = .int .i64 x30_3 ∧ Aside0 (impl_RefsIn.l1 kq l0 x5_3 (rdOf ByteArray.empty l1 x21_2) l1 (l1.length : Int) x21_2 l0 (l0.length : Int) x30_3 = some r) ∧ Aside0 (kq ≤ k2) ∧ Aside0 (MapAt (kkStr Tryz.prog 9 Tryz.underlying9) ekI64 w' gm423 x5_3) ∧ Aside0 (Below w.heap.size w w'))
     case atStart => exact ⟨(x5_2), (0), (by first | rfl | (simp; done) | (simp [*]; done)), H', ⟨Nat.le_refl _⟩, ⟨show MapAt (kkStr Tryz.prog 9 Tryz.underlying9) ekI64 _ gm423 x5_2 from by (with_reducible repeat (first | refine MapAt.alloc ?_ _ | refine MapAt.drewN ?_ _ | refine MapAt.drew ?_)); exact HM_5.out⟩, ⟨bw_ HB⟩⟩
     case round =>
      clear H'
      try clear c1
      try clear p2
      try clear p4
      try clear q4
      try clear hx4
      try clear c5
      try clear p6
      try clear c8
      try clear c11
      try clear c11b0
      try clear c12
      try clear c12b0
      try clear c13
      try clear c13b0
      try clear c15
      try clear hx427_0
      try clear p2
      try clear p427
      try clear q427
      obtain ⟨x5_3, x30_3, rfl, HA, HK3, HM_5, HB⟩ := hrel
      cases gk with
      | zero => exact absurd HA.out (by simp [impl_RefsIn.l1])
      | succ k3 =>
       have H := HA.out
       clear HA
       simp only [impl_RefsIn.l1] at H
       by_cases c16 : x30_3 < (l0.length : Int)
       {
       rw [if_pos c16] at H
       have c16b0 : decide (x30_3 < (l0.length : Int)) = true := decide_eq_true c16
       clear c16
       by_cases c17 : 0 ≤ x30_3
       {
       rw [if_pos c17] at H
       have c17b0 : decide (0 ≤ x30_3) = true := decide_eq_true c17
       clear c17
       by_cases c18 : x30_3 < (l0.length : Int)
       {
       rw [if_pos c18] at H
       have c18b0 : decide (x30_3 < (l0.length : Int)) = true := decide_eq_true c18
       clear c18
       by_cases c19 : 0 ≤ 13
       {
       rw [if_pos c19] at H
       have c19b0 := eq_true c19
       have c19b1 : decide (0 ≤ 13) = true := decide_eq_true c19
       clear c19
       by_cases c20 : 13 ≤ ((rdOf ByteArray.empty l1 x21_2).size : Int)
       {
       rw [if_pos c20] at H
       have c20b0 := eq_true c20
       have c20b1 : decide (13 ≤ ((rdOf ByteArray.empty l1 x21_2).size : Int)) = true := decide_eq_true c20
       clear c20
       replace H := Option.bind_eq_some_iff.mp H
       obtain ⟨t431, A210, H⟩ := H
       have A21 := Aside0.mk A210
       clear A210
       by_cases c22 : t431 = true
       {
       subst c22
       rw [if_pos rfl] at H
       by_cases c23 : x5_3.length < 1099511627776
       {
       rw [if_pos c23] at H
       have LMc23 := Aside0.mk c23
       clear c23
       by_cases c24 : (rdOf ByteArray.empty l1 x21_2).size ≤ 9223372036854775807
       {
       rw [if_pos c24] at H
       have c24b0 := eq_true c24
       have c24b1 : decide ((rdOf ByteArray.empty l1 x21_2).size ≤ 9223372036854775807) = true := decide_eq_true c24
       try have c24b2 : (9223372036854775807 < (rdOf ByteArray.empty l1 x21_2).size) = False := eq_false (Nat.not_lt.2 c24)
       clear c24
       obtain ⟨y432, hy432⟩ : ∃ y_ : List (ByteArray × Int), y_ = (x5_3 ++ [((rdOf ByteArray.empty l1 x21_2), 1)]) := ⟨_, rfl⟩
       replace H : (impl_RefsIn.l0 k3 l0 y432 l1 (l1.length : Int) (wrap64 (x21_2 + 1))) = some r := by first | (rw [hy432]; with_reducible exact H) | (have H2_ := (Option.bind_some _ _).symm.trans H; rw [hy432]; with_reducible exact H2_) | (have H2_ := (Option.bind_some _ _).symm.trans H; with_reducible exact H2_) | with_reducible exact H | (rw [hy432]; exact H) | exact H
       have Ny432 := Aside0.mk hy432
       clear hy432
       have H' := Aside0.mk H
       clear H
       have p429 : 0 ≤ (x30_3 : Int) := dA_
       have q429 : x30_3 < (l0.length : Int) := dA_
       obtain ⟨ad429, e429, hx429_0, hx429_1, hx429_2, hx429_3⟩ := at_T70 HR0.out x30_3 p429 q429
       cases e429
       replace hx429_0 := hX_ HB hx429_0
       replace hx429_1 := hX_ HB hx429_1
       replace hx429_2 := hX_ HB hx429_2
       replace hx429_3 := hX_ HB hx429_3
       replace p429 := eq_true p429
       replace q429 := eq_true q429
       go_wp2_with (first | ((with_reducible refine gate_dst (N := 9) rfl ?_); (try (refine gate_guard (by rfl) ?_; dsimp only)); refine box_event ?hg (N := 9) ?hd (cs := #[.string (⟨#[]⟩ : ByteArray), .int .i64 0, .string (⟨#[]⟩ : ByteArray), .bool false]) (t := 70) ?hr ?_; (case hd => rfl); (case hg => rfl); (case hr => first | (go_simp; done) | (go_simp; rfl)); intro gb430 hg w25 hbox hb; have n0_ := Aside0.mk (MapAt.below (show MapAt (kkStr Tryz.prog 9 Tryz.underlying9) ekI64 _ gm423 x5_3 from by (with_reducible repeat (first | refine MapAt.alloc ?_ _ | refine MapAt.drewN ?_ _ | refine MapAt.drew ?_)); exact HM_5.out) hb); have n1_ := Aside0.mk (below_step (bw_ HB) hb); have n2_ := Aside0.mk (hbox); have n3_ := Aside0.mk ((by rw [hg]; exact (below_size (bw_ HB)) : w.heap.size ≤ gb430)); have n4_ := Aside0.mk ((by rw [hg]; exact (below_size (bw_ HB)) : w.heap.size ≤ gb430)); clear HM_5; clear HB; have HM_5 := n0_; have HB := n1_; have BK430 := n2_; have GW430 := n3_; have GE430 := n4_; clear n0_ n1_ n2_ n3_ n4_; clear hb hbox hg; have hcz26_0 : w25.cell? ⟨gb430, 0, none⟩ = some (.string (⟨#[]⟩ : ByteArray)) := (blk_cell BK430.out 0).trans rfl; have hcz26_1 : w25.cell? ⟨gb430, 1, none⟩ = some (.int .i64 0) := (blk_cell BK430.out 1).trans rfl; have hcz26_2 : w25.cell? ⟨gb430, 2, none⟩ = some (.string (⟨#[]⟩ : ByteArray)) := (blk_cell BK430.out 2).trans rfl; have hcz26_3 : w25.cell? ⟨gb430, 3, none⟩ = some (.bool false) := (blk_cell BK430.out 3).trans rfl; have hfz26_0 := blk_frozen BK430.out 0; have hfz26_1 := blk_frozen BK430.out 1; have hfz26_2 := blk_frozen BK430.out 2; have hfz26_3 := blk_frozen BK430.out 3) | (go_at_call 77; (with_reducible refine (strings_Contains.calls ((rd_T70 l0 x30_3).f2) ((rdOf ByteArray.empty l1 x21_2).extract 0 13) true _ ?side1 A21.out).mono ?_); (case side1 => refine EnvW.below HE.out ?_; repeat (first | (with_reducible first | exact HB.out | apply below_alloc | apply pw_below_drewN | apply below_drew1 | refine below_set ?_ GE430.out) | exact HB.out)); rintro e w' ⟨rfl, ⟨nd, rfl⟩⟩; (try first | exact ⟨rfl, _, World.drewN_drewN _ _ _⟩ | exact ⟨rfl, _, Eq.trans (World.drewN_drewN _ _ _) (congrArg (World.drewN _) (Nat.add_assoc _ _ _))⟩)) | ((with_reducible refine gate_put (t := 92) (p := 39) rfl ?_); (try (refine gate_guard (by rfl) ?_; dsimp only)); refine map_put (kkStr Tryz.prog 9 Tryz.underlying9) ekI64 rfl 92 3 39 _ _ rfl Tryz.underlying92 gm423 x5_3 (rdOf ByteArray.empty l1 x21_2) 1 rfl rfl (show (rdOf ByteArray.empty l1 x21_2).size ≤ 9223372036854775807 from by first | assumption | exact of_eq_true (by assumption) | exact of_decide_eq_true (by assumption) | decide | omega) rfl (by (with_reducible repeat (first | refine MapAt.alloc ?_ _ | refine MapAt.drewN ?_ _ | refine MapAt.drew ?_ | refine MapAt.set_ ?_ _ _)); exact HM_5.out) LMc23.out ?_; intro w27 hmp hg; rw [← Ny432.out] at hmp; have n0_ := Aside0.mk (hmp); have n1_ := Aside0.mk (far_blk (show MapAt (kkStr Tryz.prog 9 Tryz.underlying9) ekI64 _ gm423 x5_3 from by (with_reducible repeat (first | refine MapAt.alloc ?_ _ | refine MapAt.drewN ?_ _ | refine MapAt.drew ?_ | refine MapAt.set_ ?_ _ _)); exact HM_5.out) hg (show (_ : World).heap[gb430]? = some (.cells #[.string ((rd_T70 l0 x30_3).f0), .int .i64 ((rd_T70 l0 x30_3).f1), .string ((rd_T70 l0 x30_3).f2), .bool ((rd_T70 l0 x30_3).f3)] 70 (0, 0)) from by (with_reducible repeat (first | refine blk_drewN ?_ _ | refine blk_drew ?_ | refine blk_alloc ?_ _)); refine blk_put (cs := #[.string ((rd_T70 l0 x30_3).f0), .int .i64 ((rd_T70 l0 x30_3).f1), .string ((rd_T70 l0 x30_3).f2), .bool false]) ?_ 3 _ rfl; (with_reducible repeat (first | refine blk_drewN ?_ _ | refine blk_drew ?_ | refine blk_alloc ?_ _)); refine blk_put (cs := #[.string ((rd_T70 l0 x30_3).f0), .int .i64 ((rd_T70 l0 x30_3).f1), .string (⟨#[]⟩ : ByteArray), .bool false]) ?_ 2 _ rfl; (with_reducible repeat (first | refine blk_drewN ?_ _ | refine blk_drew ?_ | refine blk_alloc ?_ _)); refine blk_put (cs := #[.string ((rd_T70 l0 x30_3).f0), .int .i64 0, .string (⟨#[]⟩ : ByteArray), .bool false]) ?_ 1 _ rfl; (with_reducible repeat (first | refine blk_drewN ?_ _ | refine blk_drew ?_ | refine blk_alloc ?_ _)); refine blk_put (cs := #[.string (⟨#[]⟩ : ByteArray), .int .i64 0, .string (⟨#[]⟩ : ByteArray), .bool false]) ?_ 0 _ rfl; (with_reducible repeat (first | refine blk_drewN ?_ _ | refine blk_drew ?_ | refine blk_alloc ?_ _)); exact BK430.out)); have n2_ := Aside0.mk (far_below GMgm423.out (below_size (bw1_ HB GE430)) hg (bw1_ HB GE430)); clear HM_5; clear BK430; clear HB; have HM_5 := n0_; have BK430 := n1_; have HB := n2_; clear n0_ n1_ n2_; clear hmp hg))
       repeat (go_quiet (first | ((with_reducible refine gate_dst (N := 9) rfl ?_); (try (refine gate_guard (by rfl) ?_; dsimp only)); refine box_event ?hg (N := 9) ?hd (cs := #[.string (⟨#[]⟩ : ByteArray), .int .i64 0, .string (⟨#[]⟩ : ByteArray), .bool false]) (t := 70) ?hr ?_; (case hd => rfl); (case hg => rfl); (case hr => first | (go_simp; done) | (go_simp; rfl)); intro gb430 hg w25 hbox hb; have n0_ := Aside0.mk (MapAt.below (show MapAt (kkStr Tryz.prog 9 Tryz.underlying9) ekI64 _ gm423 x5_3 from by (with_reducible repeat (first | refine MapAt.alloc ?_ _ | refine MapAt.drewN ?_ _ | refine MapAt.drew ?_)); exact HM_5.out) hb); have n1_ := Aside0.mk (below_step (bw_ HB) hb); have n2_ := Aside0.mk (hbox); have n3_ := Aside0.mk ((by rw [hg]; exact (below_size (bw_ HB)) : w.heap.size ≤ gb430)); have n4_ := Aside0.mk ((by rw [hg]; exact (below_size (bw_ HB)) : w.heap.size ≤ gb430)); clear HM_5; clear HB; have HM_5 := n0_; have HB := n1_; have BK430 := n2_; have GW430 := n3_; have GE430 := n4_; clear n0_ n1_ n2_ n3_ n4_; clear hb hbox hg; have hcz26_0 : w25.cell? ⟨gb430, 0, none⟩ = some (.string (⟨#[]⟩ : ByteArray)) := (blk_cell BK430.out 0).trans rfl; have hcz26_1 : w25.cell? ⟨gb430, 1, none⟩ = some (.int .i64 0) := (blk_cell BK430.out 1).trans rfl; have hcz26_2 : w25.cell? ⟨gb430, 2, none⟩ = some (.string (⟨#[]⟩ : ByteArray)) := (blk_cell BK430.out 2).trans rfl; have hcz26_3 : w25.cell? ⟨gb430, 3, none⟩ = some (.bool false) := (blk_cell BK430.out 3).trans rfl; have hfz26_0 := blk_frozen BK430.out 0; have hfz26_1 := blk_frozen BK430.out 1; have hfz26_2 := blk_frozen BK430.out 2; have hfz26_3 := blk_frozen BK430.out 3) | (go_at_call 77; (with_reducible refine (strings_Contains.calls ((rd_T70 l0 x30_3).f2) ((rdOf ByteArray.empty l1 x21_2).extract 0 13) true _ ?side1 A21.out).mono ?_); (case side1 => refine EnvW.below HE.out ?_; repeat (first | (with_reducible first | exact HB.out | apply below_alloc | apply pw_below_drewN | apply below_drew1 | refine below_set ?_ GE430.out) | exact HB.out)); rintro e w' ⟨rfl, ⟨nd, rfl⟩⟩; (try first | exact ⟨rfl, _, World.drewN_drewN _ _ _⟩ | exact ⟨rfl, _, Eq.trans (World.drewN_drewN _ _ _) (congrArg (World.drewN _) (Nat.add_assoc _ _ _))⟩)) | ((with_reducible refine gate_put (t := 92) (p := 39) rfl ?_); (try (refine gate_guard (by rfl) ?_; dsimp only)); refine map_put (kkStr Tryz.prog 9 Tryz.underlying9) ekI64 rfl 92 3 39 _ _ rfl Tryz.underlying92 gm423 x5_3 (rdOf ByteArray.empty l1 x21_2) 1 rfl rfl (show (rdOf ByteArray.empty l1 x21_2).size ≤ 9223372036854775807 from by first | assumption | exact of_eq_true (by assumption) | exact of_decide_eq_true (by assumption) | decide | omega) rfl (by (with_reducible repeat (first | refine MapAt.alloc ?_ _ | refine MapAt.drewN ?_ _ | refine MapAt.drew ?_ | refine MapAt.set_ ?_ _ _)); exact HM_5.out) LMc23.out ?_; intro w27 hmp hg; rw [← Ny432.out] at hmp; have n0_ := Aside0.mk (hmp); have n1_ := Aside0.mk (far_blk (show MapAt (kkStr Tryz.prog 9 Tryz.underlying9) ekI64 _ gm423 x5_3 from by (with_reducible repeat (first | refine MapAt.alloc ?_ _ | refine MapAt.drewN ?_ _ | refine MapAt.drew ?_ | refine MapAt.set_ ?_ _ _)); exact HM_5.out) hg (show (_ : World).heap[gb430]? = some (.cells #[.string ((rd_T70 l0 x30_3).f0), .int .i64 ((rd_T70 l0 x30_3).f1), .string ((rd_T70 l0 x30_3).f2), .bool ((rd_T70 l0 x30_3).f3)] 70 (0, 0)) from by (with_reducible repeat (first | refine blk_drewN ?_ _ | refine blk_drew ?_ | refine blk_alloc ?_ _)); refine blk_put (cs := #[.string ((rd_T70 l0 x30_3).f0), .int .i64 ((rd_T70 l0 x30_3).f1), .string ((rd_T70 l0 x30_3).f2), .bool false]) ?_ 3 _ rfl; (with_reducible repeat (first | refine blk_drewN ?_ _ | refine blk_drew ?_ | refine blk_alloc ?_ _)); refine blk_put (cs := #[.string ((rd_T70 l0 x30_3).f0), .int .i64 ((rd_T70 l0 x30_3).f1), .string (⟨#[]⟩ : ByteArray), .bool false]) ?_ 2 _ rfl; (with_reducible repeat (first | refine blk_drewN ?_ _ | refine blk_drew ?_ | refine blk_alloc ?_ _)); refine blk_put (cs := #[.string ((rd_T70 l0 x30_3).f0), .int .i64 0, .string (⟨#[]⟩ : ByteArray), .bool false]) ?_ 1 _ rfl; (with_reducible repeat (first | refine blk_drewN ?_ _ | refine blk_drew ?_ | refine blk_alloc ?_ _)); refine blk_put (cs := #[.string (⟨#[]⟩ : ByteArray), .int .i64 0, .string (⟨#[]⟩ : ByteArray), .bool false]) ?_ 0 _ rfl; (with_reducible repeat (first | refine blk_drewN ?_ _ | refine blk_drew ?_ | refine blk_alloc ?_ _)); exact BK430.out)); have n2_ := Aside0.mk (far_below GMgm423.out (below_size (bw1_ HB GE430)) hg (bw1_ HB GE430)); clear HM_5; clear BK430; clear HB; have HM_5 := n0_; have BK430 := n1_; have HB := n2_; clear n0_ n1_ n2_; clear hmp hg)); try go_wp2_with (first | ((with_reducible refine gate_dst (N := 9) rfl ?_); (try (refine gate_guard (by rfl) ?_; dsimp only)); refine box_event ?hg (N := 9) ?hd (cs := #[.string (⟨#[]⟩ : ByteArray), .int .i64 0, .string (⟨#[]⟩ : ByteArray), .bool false]) (t := 70) ?hr ?_; (case hd => rfl); (case hg => rfl); (case hr => first | (go_simp; done) | (go_simp; rfl)); intro gb430 hg w25 hbox hb; have n0_ := Aside0.mk (MapAt.below (show MapAt (kkStr Tryz.prog 9 Tryz.underlying9) ekI64 _ gm423 x5_3 from by (with_reducible repeat (first | refine MapAt.alloc ?_ _ | refine MapAt.drewN ?_ _ | refine MapAt.drew ?_)); exact HM_5.out) hb); have n1_ := Aside0.mk (below_step (bw_ HB) hb); have n2_ := Aside0.mk (hbox); have n3_ := Aside0.mk ((by rw [hg]; exact (below_size (bw_ HB)) : w.heap.size ≤ gb430)); have n4_ := Aside0.mk ((by rw [hg]; exact (below_size (bw_ HB)) : w.heap.size ≤ gb430)); clear HM_5; clear HB; have HM_5 := n0_; have HB := n1_; have BK430 := n2_; have GW430 := n3_; have GE430 := n4_; clear n0_ n1_ n2_ n3_ n4_; clear hb hbox hg; have hcz26_0 : w25.cell? ⟨gb430, 0, none⟩ = some (.string (⟨#[]⟩ : ByteArray)) := (blk_cell BK430.out 0).trans rfl; have hcz26_1 : w25.cell? ⟨gb430, 1, none⟩ = some (.int .i64 0) := (blk_cell BK430.out 1).trans rfl; have hcz26_2 : w25.cell? ⟨gb430, 2, none⟩ = some (.string (⟨#[]⟩ : ByteArray)) := (blk_cell BK430.out 2).trans rfl; have hcz26_3 : w25.cell? ⟨gb430, 3, none⟩ = some (.bool false) := (blk_cell BK430.out 3).trans rfl; have hfz26_0 := blk_frozen BK430.out 0; have hfz26_1 := blk_frozen BK430.out 1; have hfz26_2 := blk_frozen BK430.out 2; have hfz26_3 := blk_frozen BK430.out 3) | (go_at_call 77; (with_reducible refine (strings_Contains.calls ((rd_T70 l0 x30_3).f2) ((rdOf ByteArray.empty l1 x21_2).extract 0 13) true _ ?side1 A21.out).mono ?_); (case side1 => refine EnvW.below HE.out ?_; repeat (first | (with_reducible first | exact HB.out | apply below_alloc | apply pw_below_drewN | apply below_drew1 | refine below_set ?_ GE430.out) | exact HB.out)); rintro e w' ⟨rfl, ⟨nd, rfl⟩⟩; (try first | exact ⟨rfl, _, World.drewN_drewN _ _ _⟩ | exact ⟨rfl, _, Eq.trans (World.drewN_drewN _ _ _) (congrArg (World.drewN _) (Nat.add_assoc _ _ _))⟩)) | ((with_reducible refine gate_put (t := 92) (p := 39) rfl ?_); (try (refine gate_guard (by rfl) ?_; dsimp only)); refine map_put (kkStr Tryz.prog 9 Tryz.underlying9) ekI64 rfl 92 3 39 _ _ rfl Tryz.underlying92 gm423 x5_3 (rdOf ByteArray.empty l1 x21_2) 1 rfl rfl (show (rdOf ByteArray.empty l1 x21_2).size ≤ 9223372036854775807 from by first | assumption | exact of_eq_true (by assumption) | exact of_decide_eq_true (by assumption) | decide | omega) rfl (by (with_reducible repeat (first | refine MapAt.alloc ?_ _ | refine MapAt.drewN ?_ _ | refine MapAt.drew ?_ | refine MapAt.set_ ?_ _ _)); exact HM_5.out) LMc23.out ?_; intro w27 hmp hg; rw [← Ny432.out] at hmp; have n0_ := Aside0.mk (hmp); have n1_ := Aside0.mk (far_blk (show MapAt (kkStr Tryz.prog 9 Tryz.underlying9) ekI64 _ gm423 x5_3 from by (with_reducible repeat (first | refine MapAt.alloc ?_ _ | refine MapAt.drewN ?_ _ | refine MapAt.drew ?_ | refine MapAt.set_ ?_ _ _)); exact HM_5.out) hg (show (_ : World).heap[gb430]? = some (.cells #[.string ((rd_T70 l0 x30_3).f0), .int .i64 ((rd_T70 l0 x30_3).f1), .string ((rd_T70 l0 x30_3).f2), .bool ((rd_T70 l0 x30_3).f3)] 70 (0, 0)) from by (with_reducible repeat (first | refine blk_drewN ?_ _ | refine blk_drew ?_ | refine blk_alloc ?_ _)); refine blk_put (cs := #[.string ((rd_T70 l0 x30_3).f0), .int .i64 ((rd_T70 l0 x30_3).f1), .string ((rd_T70 l0 x30_3).f2), .bool false]) ?_ 3 _ rfl; (with_reducible repeat (first | refine blk_drewN ?_ _ | refine blk_drew ?_ | refine blk_alloc ?_ _)); refine blk_put (cs := #[.string ((rd_T70 l0 x30_3).f0), .int .i64 ((rd_T70 l0 x30_3).f1), .string (⟨#[]⟩ : ByteArray), .bool false]) ?_ 2 _ rfl; (with_reducible repeat (first | refine blk_drewN ?_ _ | refine blk_drew ?_ | refine blk_alloc ?_ _)); refine blk_put (cs := #[.string ((rd_T70 l0 x30_3).f0), .int .i64 0, .string (⟨#[]⟩ : ByteArray), .bool false]) ?_ 1 _ rfl; (with_reducible repeat (first | refine blk_drewN ?_ _ | refine blk_drew ?_ | refine blk_alloc ?_ _)); refine blk_put (cs := #[.string (⟨#[]⟩ : ByteArray), .int .i64 0, .string (⟨#[]⟩ : ByteArray), .bool false]) ?_ 0 _ rfl; (with_reducible repeat (first | refine blk_drewN ?_ _ | refine blk_drew ?_ | refine blk_alloc ?_ _)); exact BK430.out)); have n2_ := Aside0.mk (far_below GMgm423.out (below_size (bw1_ HB GE430)) hg (bw1_ HB GE430)); clear HM_5; clear BK430; clear HB; have HM_5 := n0_; have BK430 := n1_; have HB := n2_; clear n0_ n1_ n2_; clear hmp hg)))
       go_roundg k3
       case measure => have := HJ2.out; have := HK2.out; have := HK3.out; omega
       case rel => exact ⟨(y432), (wrap64 (x21_2 + 1)), (by first | rfl | (simp; done) | (simp [*]; done)), H', ⟨by have := HJ2.out; have := HK2.out; have := HK3.out; omega⟩, ⟨show MapAt (kkStr Tryz.prog 9 Tryz.underlying9) ekI64 _ gm423 y432 from by (with_reducible repeat (first | refine MapAt.alloc ?_ _ | refine MapAt.drewN ?_ _ | refine MapAt.drew ?_)); exact HM_5.out⟩, ⟨bw1_ HB GE430⟩⟩}
       {
       rw [if_neg c24] at H
       exact absurd H (by simp)}}
       {
       rw [if_neg c23] at H
       exact absurd H (by simp)}}
       {
       replace c22 := Bool.eq_false_iff.mpr c22
       subst c22
       rw [if_neg (show ¬ (false = true) by decide)] at H
       have H' := Aside0.mk H
       clear H
       have p429 : 0 ≤ (x30_3 : Int) := dA_
       have q429 : x30_3 < (l0.length : Int) := dA_
       obtain ⟨ad429, e429, hx429_0, hx429_1, hx429_2, hx429_3⟩ := at_T70 HR0.out x30_3 p429 q429
       cases e429
       replace hx429_0 := hX_ HB hx429_0
       replace hx429_1 := hX_ HB hx429_1
       replace hx429_2 := hX_ HB hx429_2
       replace hx429_3 := hX_ HB hx429_3
       replace p429 := eq_true p429
       replace q429 := eq_true q429
       go_wp2_with (first | ((with_reducible refine gate_dst (N := 9) rfl ?_); (try (refine gate_guard (by rfl) ?_; dsimp only)); refine box_event ?hg (N := 9) ?hd (cs := #[.string (⟨#[]⟩ : ByteArray), .int .i64 0, .string (⟨#[]⟩ : ByteArray), .bool false]) (t := 70) ?hr ?_; (case hd => rfl); (case hg => rfl); (case hr => first | (go_simp; done) | (go_simp; rfl)); intro gb430 hg w28 hbox hb; have n0_ := Aside0.mk (MapAt.below (show MapAt (kkStr Tryz.prog 9 Tryz.underlying9) ekI64 _ gm423 x5_3 from by (with_reducible repeat (first | refine MapAt.alloc ?_ _ | refine MapAt.drewN ?_ _ | refine MapAt.drew ?_)); exact HM_5.out) hb); have n1_ := Aside0.mk (below_step (bw_ HB) hb); have n2_ := Aside0.mk (hbox); have n3_ := Aside0.mk ((by rw [hg]; exact (below_size (bw_ HB)) : w.heap.size ≤ gb430)); have n4_ := Aside0.mk ((by rw [hg]; exact (below_size (bw_ HB)) : w.heap.size ≤ gb430)); clear HM_5; clear HB; have HM_5 := n0_; have HB := n1_; have BK430 := n2_; have GW430 := n3_; have GE430 := n4_; clear n0_ n1_ n2_ n3_ n4_; clear hb hbox hg; have hcz29_0 : w28.cell? ⟨gb430, 0, none⟩ = some (.string (⟨#[]⟩ : ByteArray)) := (blk_cell BK430.out 0).trans rfl; have hcz29_1 : w28.cell? ⟨gb430, 1, none⟩ = some (.int .i64 0) := (blk_cell BK430.out 1).trans rfl; have hcz29_2 : w28.cell? ⟨gb430, 2, none⟩ = some (.string (⟨#[]⟩ : ByteArray)) := (blk_cell BK430.out 2).trans rfl; have hcz29_3 : w28.cell? ⟨gb430, 3, none⟩ = some (.bool false) := (blk_cell BK430.out 3).trans rfl; have hfz29_0 := blk_frozen BK430.out 0; have hfz29_1 := blk_frozen BK430.out 1; have hfz29_2 := blk_frozen BK430.out 2; have hfz29_3 := blk_frozen BK430.out 3) | (go_at_call 77; (with_reducible refine (strings_Contains.calls ((rd_T70 l0 x30_3).f2) ((rdOf ByteArray.empty l1 x21_2).extract 0 13) false _ ?side1 A21.out).mono ?_); (case side1 => refine EnvW.below HE.out ?_; repeat (first | (with_reducible first | exact HB.out | apply below_alloc | apply pw_below_drewN | apply below_drew1 | refine below_set ?_ GE430.out) | exact HB.out)); rintro e w' ⟨rfl, ⟨nd, rfl⟩⟩; (try first | exact ⟨rfl, _, World.drewN_drewN _ _ _⟩ | exact ⟨rfl, _, Eq.trans (World.drewN_drewN _ _ _) (congrArg (World.drewN _) (Nat.add_assoc _ _ _))⟩)))
       repeat (go_quiet (first | ((with_reducible refine gate_dst (N := 9) rfl ?_); (try (refine gate_guard (by rfl) ?_; dsimp only)); refine box_event ?hg (N := 9) ?hd (cs := #[.string (⟨#[]⟩ : ByteArray), .int .i64 0, .string (⟨#[]⟩ : ByteArray), .bool false]) (t := 70) ?hr ?_; (case hd => rfl); (case hg => rfl); (case hr => first | (go_simp; done) | (go_simp; rfl)); intro gb430 hg w28 hbox hb; have n0_ := Aside0.mk (MapAt.below (show MapAt (kkStr Tryz.prog 9 Tryz.underlying9) ekI64 _ gm423 x5_3 from by (with_reducible repeat (first | refine MapAt.alloc ?_ _ | refine MapAt.drewN ?_ _ | refine MapAt.drew ?_)); exact HM_5.out) hb); have n1_ := Aside0.mk (below_step (bw_ HB) hb); have n2_ := Aside0.mk (hbox); have n3_ := Aside0.mk ((by rw [hg]; exact (below_size (bw_ HB)) : w.heap.size ≤ gb430)); have n4_ := Aside0.mk ((by rw [hg]; exact (below_size (bw_ HB)) : w.heap.size ≤ gb430)); clear HM_5; clear HB; have HM_5 := n0_; have HB := n1_; have BK430 := n2_; have GW430 := n3_; have GE430 := n4_; clear n0_ n1_ n2_ n3_ n4_; clear hb hbox hg; have hcz29_0 : w28.cell? ⟨gb430, 0, none⟩ = some (.string (⟨#[]⟩ : ByteArray)) := (blk_cell BK430.out 0).trans rfl; have hcz29_1 : w28.cell? ⟨gb430, 1, none⟩ = some (.int .i64 0) := (blk_cell BK430.out 1).trans rfl; have hcz29_2 : w28.cell? ⟨gb430, 2, none⟩ = some (.string (⟨#[]⟩ : ByteArray)) := (blk_cell BK430.out 2).trans rfl; have hcz29_3 : w28.cell? ⟨gb430, 3, none⟩ = some (.bool false) := (blk_cell BK430.out 3).trans rfl; have hfz29_0 := blk_frozen BK430.out 0; have hfz29_1 := blk_frozen BK430.out 1; have hfz29_2 := blk_frozen BK430.out 2; have hfz29_3 := blk_frozen BK430.out 3) | (go_at_call 77; (with_reducible refine (strings_Contains.calls ((rd_T70 l0 x30_3).f2) ((rdOf ByteArray.empty l1 x21_2).extract 0 13) false _ ?side1 A21.out).mono ?_); (case side1 => refine EnvW.below HE.out ?_; repeat (first | (with_reducible first | exact HB.out | apply below_alloc | apply pw_below_drewN | apply below_drew1 | refine below_set ?_ GE430.out) | exact HB.out)); rintro e w' ⟨rfl, ⟨nd, rfl⟩⟩; (try first | exact ⟨rfl, _, World.drewN_drewN _ _ _⟩ | exact ⟨rfl, _, Eq.trans (World.drewN_drewN _ _ _) (congrArg (World.drewN _) (Nat.add_assoc _ _ _))⟩))); try go_wp2_with (first | ((with_reducible refine gate_dst (N := 9) rfl ?_); (try (refine gate_guard (by rfl) ?_; dsimp only)); refine box_event ?hg (N := 9) ?hd (cs := #[.string (⟨#[]⟩ : ByteArray), .int .i64 0, .string (⟨#[]⟩ : ByteArray), .bool false]) (t := 70) ?hr ?_; (case hd => rfl); (case hg => rfl); (case hr => first | (go_simp; done) | (go_simp; rfl)); intro gb430 hg w28 hbox hb; have n0_ := Aside0.mk (MapAt.below (show MapAt (kkStr Tryz.prog 9 Tryz.underlying9) ekI64 _ gm423 x5_3 from by (with_reducible repeat (first | refine MapAt.alloc ?_ _ | refine MapAt.drewN ?_ _ | refine MapAt.drew ?_)); exact HM_5.out) hb); have n1_ := Aside0.mk (below_step (bw_ HB) hb); have n2_ := Aside0.mk (hbox); have n3_ := Aside0.mk ((by rw [hg]; exact (below_size (bw_ HB)) : w.heap.size ≤ gb430)); have n4_ := Aside0.mk ((by rw [hg]; exact (below_size (bw_ HB)) : w.heap.size ≤ gb430)); clear HM_5; clear HB; have HM_5 := n0_; have HB := n1_; have BK430 := n2_; have GW430 := n3_; have GE430 := n4_; clear n0_ n1_ n2_ n3_ n4_; clear hb hbox hg; have hcz29_0 : w28.cell? ⟨gb430, 0, none⟩ = some (.string (⟨#[]⟩ : ByteArray)) := (blk_cell BK430.out 0).trans rfl; have hcz29_1 : w28.cell? ⟨gb430, 1, none⟩ = some (.int .i64 0) := (blk_cell BK430.out 1).trans rfl; have hcz29_2 : w28.cell? ⟨gb430, 2, none⟩ = some (.string (⟨#[]⟩ : ByteArray)) := (blk_cell BK430.out 2).trans rfl; have hcz29_3 : w28.cell? ⟨gb430, 3, none⟩ = some (.bool false) := (blk_cell BK430.out 3).trans rfl; have hfz29_0 := blk_frozen BK430.out 0; have hfz29_1 := blk_frozen BK430.out 1; have hfz29_2 := blk_frozen BK430.out 2; have hfz29_3 := blk_frozen BK430.out 3) | (go_at_call 77; (with_reducible refine (strings_Contains.calls ((rd_T70 l0 x30_3).f2) ((rdOf ByteArray.empty l1 x21_2).extract 0 13) false _ ?side1 A21.out).mono ?_); (case side1 => refine EnvW.below HE.out ?_; repeat (first | (with_reducible first | exact HB.out | apply below_alloc | apply pw_below_drewN | apply below_drew1 | refine below_set ?_ GE430.out) | exact HB.out)); rintro e w' ⟨rfl, ⟨nd, rfl⟩⟩; (try first | exact ⟨rfl, _, World.drewN_drewN _ _ _⟩ | exact ⟨rfl, _, Eq.trans (World.drewN_drewN _ _ _) (congrArg (World.drewN _) (Nat.add_assoc _ _ _))⟩))))
       go_roundg k3
       case measure => have := HJ2.out; have := HK2.out; have := HK3.out; omega
       case rel => exact ⟨(x5_3), (wrap64 (x30_3 + 1)), (by first | rfl | (simp; done) | (simp [*]; done)), H', ⟨by have := HJ2.out; have := HK2.out; have := HK3.out; omega⟩, ⟨show MapAt (kkStr Tryz.prog 9 Tryz.underlying9) ekI64 _ gm423 x5_3 from by (with_reducible repeat (first | refine MapAt.alloc ?_ _ | refine MapAt.drewN ?_ _ | refine MapAt.drew ?_ | refine MapAt.set_ ?_ _ _)); exact HM_5.out⟩, ⟨bw1_ HB GE430⟩⟩}}
       {
       rw [if_neg c20] at H
       exact absurd H (by simp)}}
       {
       rw [if_neg c19] at H
       exact absurd H (by simp)}}
       {
       rw [if_neg c18] at H
       exact absurd H (by simp)}}
       {
       rw [if_neg c17] at H
       exact absurd H (by simp)}}
       {
       rw [if_neg c16] at H
       have c16b0 : decide (x30_3 < (l0.length : Int)) = false := decide_eq_false c16
       clear c16
       have H' := Aside0.mk H
       clear H
       go_wp2
       repeat (go_quiet (fail); try go_wp2)
       go_roundg k3
       case measure => have := HJ2.out; have := HK2.out; have := HK3.out; omega
       case rel => exact ⟨(x5_3), (wrap64 (x21_2 + 1)), (by first | rfl | (simp; done) | (simp [*]; done)), H', ⟨by have := HJ2.out; have := HK2.out; have := HK3.out; omega⟩, ⟨show MapAt (kkStr Tryz.prog 9 Tryz.underlying9) ekI64 _ gm423 x5_3 from by (with_reducible repeat (first | refine MapAt.alloc ?_ _ | refine MapAt.drewN ?_ _ | refine MapAt.drew ?_)); exact HM_5.out⟩, ⟨bw_ HB⟩⟩}}
     {
     replace c15 := Bool.eq_false_iff.mpr c15
     subst c15
     rw [if_neg (show ¬ (false = true) by decide)] at H
     have H' := Aside0.mk H
     clear H
     have p427 : 0 ≤ (x21_2 : Int) := dA_
     have q427 : x21_2 < (l1.length : Int) := dA_
     obtain ⟨ad427, e427, hx427_0⟩ := Kd.at_string HR1.out x21_2 p427 q427
     cases e427
     replace hx427_0 := hX_ HB hx427_0
     replace p427 := eq_true p427
     replace q427 := eq_true q427
     go_wp2_with (first | (go_at_call 62; (with_reducible refine (impl_AddressOk.calls k2 (rdOf ByteArray.empty l1 x21_2) false _ A14.out).mono ?_); rintro e w' ⟨rfl, ⟨nd, rfl⟩⟩; (try first | exact ⟨rfl, _, World.drewN_drewN _ _ _⟩ | exact ⟨rfl, _, Eq.trans (World.drewN_drewN _ _ _) (congrArg (World.drewN _) (Nat.add_assoc _ _ _))⟩)))
     repeat (go_quiet (first | (go_at_call 62; (with_reducible refine (impl_AddressOk.calls k2 (rdOf ByteArray.empty l1 x21_2) false _ A14.out).mono ?_); rintro e w' ⟨rfl, ⟨nd, rfl⟩⟩; (try first | exact ⟨rfl, _, World.drewN_drewN _ _ _⟩ | exact ⟨rfl, _, Eq.trans (World.drewN_drewN _ _ _) (congrArg (World.drewN _) (Nat.add_assoc _ _ _))⟩))); try go_wp2_with (first | (go_at_call 62; (with_reducible refine (impl_AddressOk.calls k2 (rdOf ByteArray.empty l1 x21_2) false _ A14.out).mono ?_); rintro e w' ⟨rfl, ⟨nd, rfl⟩⟩; (try first | exact ⟨rfl, _, World.drewN_drewN _ _ _⟩ | exact ⟨rfl, _, Eq.trans (World.drewN_drewN _ _ _) (congrArg (World.drewN _) (Nat.add_assoc _ _ _))⟩))))
     go_roundg k2
     case measure => have := HJ2.out; have := HK2.out; omega
     case rel => exact ⟨(x5_2), (wrap64 (x21_2 + 1)), (by first | rfl | (simp; done) | (simp [*]; done)), H', ⟨by have := HJ2.out; have := HK2.out; omega⟩, ⟨show MapAt (kkStr Tryz.prog 9 Tryz.underlying9) ekI64 _ gm423 x5_2 from by (with_reducible repeat (first | refine MapAt.alloc ?_ _ | refine MapAt.drewN ?_ _ | refine MapAt.drew ?_)); exact HM_5.out⟩, ⟨bw_ HB⟩⟩}}
     {
     rw [if_neg c13] at H
     exact absurd H (by simp)}}
     {
     rw [if_neg c12] at H
     exact absurd H (by simp)}}
     {
     rw [if_neg c11] at H
     have c11b0 : decide (x21_2 < (l1.length : Int)) = false := decide_eq_false c11
     clear c11
     replace H := Option.bind_eq_some_iff.mp H
     obtain ⟨t424, A300, H⟩ := H
     have A30 := Aside0.mk A300
     clear A300
     obtain rfl := Option.some.inj H
     go_wp2_with (first | (go_at_call 78; (with_reducible refine (impl_sorted.calls gm423 x5_2 t424 _ ?side1 A30.out).mono ?_); (case side1 => (with_reducible repeat (first | refine MapAt.alloc ?_ _ | refine MapAt.drewN ?_ _ | refine MapAt.drew ?_)); exact HM_5.out); rintro e w31 ⟨v425, rfl, ho0, hb⟩; have n0_ := Aside0.mk (Kd.R_lower ho0 (below_size (bw_ HB))); have n1_ := Aside0.mk (MapAt.below (show MapAt (kkStr Tryz.prog 9 Tryz.underlying9) ekI64 _ gm423 x5_2 from by (with_reducible repeat (first | refine MapAt.alloc ?_ _ | refine MapAt.drewN ?_ _ | refine MapAt.drew ?_)); exact HM_5.out) hb); have n2_ := Aside0.mk (below_step (bw_ HB) hb); clear HM_5; clear HB; have HO426 := n0_; have HM_5 := n1_; have HB := n2_; clear n0_ n1_ n2_; (try clear hb); (try clear hb2); (try clear hk); (try clear hi); (try clear ho0)))
     repeat (go_quiet (first | (go_at_call 78; (with_reducible refine (impl_sorted.calls gm423 x5_2 t424 _ ?side1 A30.out).mono ?_); (case side1 => (with_reducible repeat (first | refine MapAt.alloc ?_ _ | refine MapAt.drewN ?_ _ | refine MapAt.drew ?_)); exact HM_5.out); rintro e w31 ⟨v425, rfl, ho0, hb⟩; have n0_ := Aside0.mk (Kd.R_lower ho0 (below_size (bw_ HB))); have n1_ := Aside0.mk (MapAt.below (show MapAt (kkStr Tryz.prog 9 Tryz.underlying9) ekI64 _ gm423 x5_2 from by (with_reducible repeat (first | refine MapAt.alloc ?_ _ | refine MapAt.drewN ?_ _ | refine MapAt.drew ?_)); exact HM_5.out) hb); have n2_ := Aside0.mk (below_step (bw_ HB) hb); clear HM_5; clear HB; have HO426 := n0_; have HM_5 := n1_; have HB := n2_; clear n0_ n1_ n2_; (try clear hb); (try clear hb2); (try clear hk); (try clear hi); (try clear ho0))); try go_wp2_with (first | (go_at_call 78; (with_reducible refine (impl_sorted.calls gm423 x5_2 t424 _ ?side1 A30.out).mono ?_); (case side1 => (with_reducible repeat (first | refine MapAt.alloc ?_ _ | refine MapAt.drewN ?_ _ | refine MapAt.drew ?_)); exact HM_5.out); rintro e w31 ⟨v425, rfl, ho0, hb⟩; have n0_ := Aside0.mk (Kd.R_lower ho0 (below_size (bw_ HB))); have n1_ := Aside0.mk (MapAt.below (show MapAt (kkStr Tryz.prog 9 Tryz.underlying9) ekI64 _ gm423 x5_2 from by (with_reducible repeat (first | refine MapAt.alloc ?_ _ | refine MapAt.drewN ?_ _ | refine MapAt.drew ?_)); exact HM_5.out) hb); have n2_ := Aside0.mk (below_step (bw_ HB) hb); clear HM_5; clear HB; have HO426 := n0_; have HM_5 := n1_; have HB := n2_; clear n0_ n1_ n2_; (try clear hb); (try clear hb2); (try clear hk); (try clear hi); (try clear ho0))))
     go_ret
     exact ⟨_, eR_, by (with_reducible repeat (first | apply Kd.R_alloc | apply Kd.R_drewN | apply Kd.R_drew)); exact HO426.out, bw_ HB⟩
}}
end Go.Proofs.YtkhhkpjeafknpaaGreatDoor.P
end
