/- Texts of Sto, put together by program. -/
import Derived.Test.YtkhhkpjeafknpaaGreatDoorMSto2
import Derived.Test.YtkhhkpjeafknpaaGreatDoorMSto3
import Derived.Test.YtkhhkpjeafknpaaGreatDoorMSto4
import Derived.Test.YtkhhkpjeafknpaaGreatDoorMSto5

section
namespace Go.Proofs.YtkhhkpjeafknpaaGreatDoor.P
open Go.RowKit Go.Proofs.YtkhhkpjeafknpaaGreatDoorW.PrintWords Go.Proofs.YtkhhkpjeafknpaaGreatDoorW.PrintLast Go.Proofs.YtkhhkpjeafknpaaGreatDoorW.PrintMore Go.Proofs.YtkhhkpjeafknpaaGreatDoorM
attribute [local go_sem] max2_int min2_int max_two min_two max_three min_three max_four min_four
set_option linter.unusedVariables false
set_option linter.unusedSimpArgs false
def spec_l12ItemOk.f (k : Nat) (a0_0 : ByteArray) (a0_1 : ByteArray) (l0_2 : List ByteArray) (a0_3 : ByteArray) (l0_4 : List (S70)) (l1 : List ByteArray) : Option (Bool) := (spec_AddressOk.f k a0_0).bind fun t268 => (if t268 = true then ((spec_TreeOk.f k l0_4).bind fun t269 => (if t269 = true then ((spec_TreeSum.f k l0_4).bind fun t270 => (if a0_1.toList = t270.toList then (if a0_3.toList = ([] : List UInt8) then ((spec_l10Refs.f k l0_4 l1).bind fun t271 => ((spec_l12SameTexts.f k l0_2 t271).bind fun t274 => (some t274))) else ((spec_AddressOk.f k a0_3).bind fun t275 => (if t275 = true then ((spec_l10Refs.f k l0_4 l1).bind fun t276 => ((spec_l12SameTexts.f k l0_2 t276).bind fun t279 => (some t279))) else (some false)))) else (some false))) else (some false))) else (some false))
def spec_l12ItemOk.T1 : Bool × List (List Nat × List Nat) := (true, [([], []), ([0], [0]), ([1], [1]), ([2, 2], [2]), ([3], [3]), ([4, 3], [3, 4]), ([5, 3, 3], [3, 5]), ([3, 6], [3, 6]), ([7, 6], [7]), ([8], [8]), ([9, 8], [8, 9]), ([8], [8]), ([11, 8], [8, 11]), ([12, 8, 8], [8, 12]), ([10, 13, 8], [8, 10, 13]), ([8, 14], [8, 14]), ([15, 13], [15]), ([16], [16]), ([17, 16], [16, 17]), ([18, 16], [16, 18]), ([19, 16, 16], [16, 19]), ([20], [20]), ([21, 20], [20, 21]), ([22, 20, 20], [20, 22]), ([20, 23, 16], [16, 20, 23]), ([16, 24], [16, 24]), ([25, 23], [25]), ([26], [26]), ([27, 26], [26, 27]), ([26], [26]), ([29, 26], [26, 29]), ([26], [26]), ([30, 31, 26, 26], [26, 30, 31]), ([28, 32, 32, 26], [26, 28, 32]), ([26, 33], [26, 33]), ([34, 33, 0, 1, 2, 3, 4, 5, 6, 7, 8, 9, 10, 11, 12, 13, 14, 15, 16, 17, 18, 19, 20, 21, 22, 23, 24, 25, 26, 27, 28, 29, 30, 31, 32, 33, 34], [34])])
def spec_l12ItemOk.B1 : List Nat := [0, 1, 3, 7, 15, 31, 63, 127, 255, 511, 1023, 511, 2559, 6655, 16383, 32767, 65535, 131071, 262143, 524287, 1048575, 2097151, 4194303, 8388607, 16777215, 33554431, 67108863, 134217727, 268435455, 134217727, 671088639, 134217727, 3892314111, 8589934591, 17179869183, 34359738367]
theorem spec_l12ItemOk.tab1 : rtab .any (opsOf Tryz.f31 1) = spec_l12ItemOk.T1 := by kernel_rfl
theorem spec_l12ItemOk.bits1 : waitsOk spec_l12ItemOk.T1.2 spec_l12ItemOk.B1 = true := by kernel_rfl
set_option maxHeartbeats 8000000 in
set_option maxRecDepth 100000 in
theorem spec_l12ItemOk.calls (k : Nat) (a0_0 : ByteArray) (a0_1 : ByteArray) (A0_2 : Option Addr) (c0_2 : Nat) (l0_2 : List ByteArray) (a0_3 : ByteArray) (A0_4 : Option Addr) (c0_4 : Nat) (l0_4 : List (S70)) (A1 : Option Addr) (c1 : Nat) (l1 : List ByteArray) (r : Bool) (w : World) (hr0_2 : Kd.C Kd.string w A0_2 l0_2.length l0_2) (hc0_2 : l0_2.length ≤ c0_2) (hr0_4 : Kd.C k70 w A0_4 l0_4.length l0_4) (hc0_4 : l0_4.length ≤ c0_4) (hr1 : Kd.C Kd.string w A1 l1.length l1) (hc1 : l1.length ≤ c1) (h : spec_l12ItemOk.f k a0_0 a0_1 l0_2 a0_3 l0_4 l1 = some r) :
 Calls Tryz.prog 31 #[.agg #[.string a0_0, .string a0_1, .slice A0_2 l0_2.length c0_2, .string a0_3, .slice A0_4 l0_4.length c0_4], .slice A1 l1.length c1] w fun e w' => e = .returned (.bool r) ∧ Below w.heap.size w w' := by
 have hu54 := Tryz.underlying54
 have HR0_2 := Aside0.mk hr0_2
 have HC0_2 := Aside0.mk hc0_2
 clear hr0_2 hc0_2
 have HR0_4 := Aside0.mk hr0_4
 have HC0_4 := Aside0.mk hc0_4
 clear hr0_4 hc0_4
 have HR1 := Aside0.mk hr1
 have HC1 := Aside0.mk hc1
 clear hr1 hc1
 have HB := Aside0.mk (Below.refl w.heap.size w)
 have H : ((spec_AddressOk.f k a0_0).bind fun t268 => (if t268 = true then ((spec_TreeOk.f k l0_4).bind fun t269 => (if t269 = true then ((spec_TreeSum.f k l0_4).bind fun t270 => (if a0_1.toList = t270.toList then (if a0_3.toList = ([] : List UInt8) then ((spec_l10Refs.f k l0_4 l1).bind fun t271 => ((spec_l12SameTexts.f k l0_2 t271).bind fun t274 => (some t274))) else ((spec_AddressOk.f k a0_3).bind fun t275 => (if t275 = true then ((spec_l10Refs.f k l0_4 l1).bind fun t276 => ((spec_l12SameTexts.f k l0_2 t276).bind fun t279 => (some t279))) else (some false)))) else (some false))) else (some false))) else (some false))) = some r := h
 clear h
 replace H := Option.bind_eq_some_iff.mp H
 obtain ⟨t268, A30, H⟩ := H
 have A3 := Aside0.mk A30
 clear A30
 by_cases c4 : t268 = true
 {
 subst c4
 rw [if_pos rfl] at H
 replace H := Option.bind_eq_some_iff.mp H
 obtain ⟨t269, A50, H⟩ := H
 have A5 := Aside0.mk A50
 clear A50
 by_cases c6 : t269 = true
 {
 subst c6
 rw [if_pos rfl] at H
 replace H := Option.bind_eq_some_iff.mp H
 obtain ⟨t270, A70, H⟩ := H
 have A7 := Aside0.mk A70
 clear A70
 by_cases c8 : a0_1.toList = t270.toList
 {
 rw [if_pos c8] at H
 have c8b0 : (a0_1.toList == t270.toList) = true := beq_iff_eq.mpr c8
 have c8b1 : (a0_1.toList != t270.toList) = false := bne_eq_false_iff_eq.mpr c8
 clear c8
 by_cases c9 : a0_3.toList = ([] : List UInt8)
 {
 rw [if_pos c9] at H
 have c9b0 : (a0_3.toList == ([] : List UInt8)) = true := beq_iff_eq.mpr c9
 have c9b1 : (a0_3.toList != ([] : List UInt8)) = false := bne_eq_false_iff_eq.mpr c9
 clear c9
 replace H := Option.bind_eq_some_iff.mp H
 obtain ⟨t271, A100, H⟩ := H
 have A10 := Aside0.mk A100
 clear A100
 replace H := Option.bind_eq_some_iff.mp H
 obtain ⟨t274, A110, H⟩ := H
 have A11 := Aside0.mk A110
 clear A110
 obtain rfl := Option.some.inj H
 go_enter Tryz.func31, Tryz.ntmps31
 try go_wp2_with (first | ((with_reducible refine gate_dst (N := 2) rfl ?_); refine box_event ?hg (N := 2) ?hd (cs := #[.string a0_0, .string a0_1, .slice A0_2 l0_2.length c0_2, .string a0_3, .slice A0_4 l0_4.length c0_4]) (t := 54) ?hr ?_; (case hd => rfl); (case hg => rfl); (case hr => first | (go_simp; done) | (go_simp; rfl)); intro gb267 hg w12 hbox hb; have n0_ := Aside0.mk (below_step (bw_ HB) hb); have n1_ := Aside0.mk (hbox); have n2_ := Aside0.mk ((by rw [hg]; exact (below_size (bw_ HB)) : w.heap.size ≤ gb267)); have n3_ := Aside0.mk ((by rw [hg]; exact (below_size (bw_ HB)) : w.heap.size ≤ gb267)); clear HB; have HB := n0_; have BK267 := n1_; have GW267 := n2_; have GE267 := n3_; clear n0_ n1_ n2_ n3_; clear hb hbox hg))
 have n0_ := Aside0.mk (blk_drew BK267.out)
 have n1_ := Aside0.mk (below_drew1 HB.out)
 clear BK267
 clear HB
 have BK267 := n0_
 have HB := n1_
 clear n0_ n1_
 refine start_ (n := 36) (S := fun w' => w'.cell? ⟨gb267, 0, none⟩ = some (.string a0_0) ∧ w'.cell? ⟨gb267, 1, none⟩ = some (.string a0_1) ∧ w'.cell? ⟨gb267, 2, none⟩ = some (.slice A0_2 l0_2.length c0_2) ∧ w'.cell? ⟨gb267, 3, none⟩ = some (.string a0_3) ∧ w'.cell? ⟨gb267, 4, none⟩ = some (.slice A0_4 l0_4.length c0_4)) (ds := []) (bs_ 36 0) (by kernel_rfl) rfl (by kernel_rfl) ⟨(blk_cell BK267.out 0).trans rfl, (blk_cell BK267.out 1).trans rfl, (blk_cell BK267.out 2).trans rfl, (blk_cell BK267.out 3).trans rfl, (blk_cell BK267.out 4).trans rfl⟩ (fun hHeld => ?_); refine with_tabW spec_l12ItemOk.tab1 spec_l12ItemOk.bits1 (fun HT_ HW_ => ?_)
 generalize w12.drew = w13 at BK267 HB hHeld ⊢
 refine pS_ 0 ?_
 refine t5_ 1 hHeld ?_
 refine oS_ 2 (fun K hK => ?_)
 refine gS_ Tryz.func43 #[.string a0_0] ?_
 with_reducible refine (spec_AddressOk.calls k a0_0 true _ A3.out).mono ?_
 rintro e w' ⟨rfl, ⟨nd, rfl⟩⟩
 refine ⟨_, rfl, ?_⟩
 refine hK.out _ _ ⟨(blk_cell BK267.out 0).trans rfl, (blk_cell BK267.out 1).trans rfl, (blk_cell BK267.out 2).trans rfl, (blk_cell BK267.out 3).trans rfl, (blk_cell BK267.out 4).trans rfl⟩ (fun hHeld => ?_)
 clear hK K
 refine nS_ 7 ?_
 refine pS_ 3 ?_
 refine pS_ 4 ?_
 refine t5_ 5 hHeld ?_
 refine oS_ 6 (fun K hK => ?_)
 refine gS_ Tryz.func44 #[.slice A0_4 l0_4.length c0_4] ?_
 with_reducible refine (spec_TreeOk.calls k _ _ l0_4 true _ ?side1 ?side2 A5.out).mono ?_
 (case side1 => repeat (first | exact (Kd.C_below HR0_4.out (bw1_ HB GE267)) | (with_reducible refine Kd.C_alloc ?_ _) | (with_reducible refine Kd.C_drewN ?_ _) | (with_reducible refine Kd.C_drew ?_)))
 (case side2 => exact HC0_4.out)
 rintro e w14 ⟨rfl, hb⟩
 refine ⟨_, rfl, ?_⟩
 have n0_ := Aside0.mk (blk_below (g := gb267) (o := .cells #[.string a0_0, .string a0_1, .slice A0_2 l0_2.length c0_2, .string a0_3, .slice A0_4 l0_4.length c0_4] 54 (0, 0)) (by (with_reducible repeat (first | refine blk_drewN ?_ _ | refine blk_drew ?_ | refine blk_alloc ?_ _)); exact BK267.out) hb)
 have n1_ := Aside0.mk (below_step (bw1_ HB GE267) hb)
 clear BK267
 clear HB
 have BK267 := n0_
 have HB := n1_
 clear n0_ n1_
 (try clear hb)
 (try clear hb2)
 (try clear hk)
 (try clear hi)
 refine hK.out _ _ ⟨(blk_cell BK267.out 0).trans rfl, (blk_cell BK267.out 1).trans rfl, (blk_cell BK267.out 2).trans rfl, (blk_cell BK267.out 3).trans rfl, (blk_cell BK267.out 4).trans rfl⟩ (fun hHeld => ?_)
 clear hK K
 refine nS_ 11 ?_
 refine pS_ 7 ?_
 refine pS_ 8 ?_
 refine pS_ 9 ?_
 refine pS_ 11 ?_
 refine t5_ 10 hHeld ?_
 refine t5_ 12 hHeld ?_
 refine oS_ 13 (fun K hK => ?_)
 refine gS_ Tryz.func59 #[.slice A0_4 l0_4.length c0_4] ?_
 with_reducible refine (spec_TreeSum.calls k _ _ l0_4 t270 _ ?side1 ?side2 A7.out).mono ?_
 (case side1 => exact cS_ HR0_4 HB)
 (case side2 => exact HC0_4.out)
 rintro e w15 ⟨rfl, hb⟩
 refine ⟨_, rfl, ?_⟩
 have n0_ := Aside0.mk (blk_below (g := gb267) (o := .cells #[.string a0_0, .string a0_1, .slice A0_2 l0_2.length c0_2, .string a0_3, .slice A0_4 l0_4.length c0_4] 54 (0, 0)) (by (with_reducible repeat (first | refine blk_drewN ?_ _ | refine blk_drew ?_ | refine blk_alloc ?_ _)); exact BK267.out) hb)
 have n1_ := Aside0.mk (below_step (bw1_ HB GE267) hb)
 clear BK267
 clear HB
 have BK267 := n0_
 have HB := n1_
 clear n0_ n1_
 (try clear hb)
 (try clear hb2)
 (try clear hk)
 (try clear hi)
 refine hK.out _ _ ⟨(blk_cell BK267.out 0).trans rfl, (blk_cell BK267.out 1).trans rfl, (blk_cell BK267.out 2).trans rfl, (blk_cell BK267.out 3).trans rfl, (blk_cell BK267.out 4).trans rfl⟩ (fun hHeld => ?_)
 clear hK K
 refine nS_ 18 ?_
 refine pS_ 14 ?_
 refine pS_ 15 ?_
 refine pS_ 16 ?_
 refine pS_ 17 ?_
 refine t5_ 18 hHeld ?_
 refine pS_ 19 ?_
 refine pS_ 20 ?_
 refine pU_ 21 ?_
 refine pU_ 22 ?_
 refine pU_ 23 ?_
 refine pS_ 24 ?_
 refine pS_ 25 ?_
 refine pS_ 26 ?_
 refine pS_ 27 ?_
 refine pS_ 29 ?_
 refine pS_ 31 ?_
 refine t5_ 28 hHeld ?_
 refine t5_ 30 hHeld ?_
 refine oS_ 32 (fun K hK => ?_)
 refine gS_ Tryz.func61 #[.slice A0_4 l0_4.length c0_4, .slice A1 l1.length c1] ?_
 with_reducible refine (spec_l10Refs.calls k _ _ l0_4 _ _ l1 t271 _ ?side1 ?side2 ?side3 ?side4 A10.out).mono ?_
 (case side1 => exact cS_ HR0_4 HB)
 (case side2 => exact HC0_4.out)
 (case side3 => exact cS_ HR1 HB)
 (case side4 => exact HC1.out)
 rintro e w16 ⟨v272, rfl, ho0, hb⟩
 refine ⟨_, rfl, ?_⟩
 have n0_ := Aside0.mk (Kd.R_lower ho0 (below_size (bw1_ HB GE267)))
 have n1_ := Aside0.mk (blk_below (g := gb267) (o := .cells #[.string a0_0, .string a0_1, .slice A0_2 l0_2.length c0_2, .string a0_3, .slice A0_4 l0_4.length c0_4] 54 (0, 0)) (by (with_reducible repeat (first | refine blk_drewN ?_ _ | refine blk_drew ?_ | refine blk_alloc ?_ _)); exact BK267.out) hb)
 have n2_ := Aside0.mk (below_step (bw1_ HB GE267) hb)
 clear BK267
 clear HB
 have HO273 := n0_
 have BK267 := n1_
 have HB := n2_
 clear n0_ n1_ n2_
 (try clear hb)
 (try clear hb2)
 (try clear hk)
 (try clear hi)
 (try clear ho0)
 obtain ⟨Ao17, co17, eo17⟩ := Kd.R_slice HO273.out
 (first | subst eo17 | (injection eo17 with f1_ f2_ f3_; have f4_ := f1_.symm; have f5_ := f3_.symm; clear f1_ f2_ f3_; subst f4_; subst f5_))
 refine hK.out _ _ ⟨(blk_cell BK267.out 0).trans rfl, (blk_cell BK267.out 1).trans rfl, (blk_cell BK267.out 2).trans rfl, (blk_cell BK267.out 3).trans rfl, (blk_cell BK267.out 4).trans rfl⟩ (fun hHeld => ?_)
 clear hK K
 refine nS_ 37 ?_
 refine oS_ 33 (fun K hK => ?_)
 refine gS_ Tryz.func60 #[.slice A0_2 l0_2.length c0_2, .slice Ao17 t271.length co17] ?_
 with_reducible refine (spec_l12SameTexts.calls k _ _ l0_2 _ _ t271 t274 _ ?side1 ?side2 ?side3 ?side4 A11.out).mono ?_
 (case side1 => exact cS_ HR0_2 HB)
 (case side2 => exact HC0_2.out)
 (case side3 => repeat (first | exact (Kd.R_reads' HO273.out).2.2 | (with_reducible refine Kd.C_alloc ?_ _) | (with_reducible refine Kd.C_drewN ?_ _) | (with_reducible refine Kd.C_drew ?_)))
 (case side4 => exact (Kd.R_reads' HO273.out).2.1)
 rintro e w' ⟨rfl, ⟨nd, rfl⟩⟩
 refine ⟨_, rfl, ?_⟩
 refine hK.out _ _ ⟨(blk_cell BK267.out 0).trans rfl, (blk_cell BK267.out 1).trans rfl, (blk_cell BK267.out 2).trans rfl, (blk_cell BK267.out 3).trans rfl, (blk_cell BK267.out 4).trans rfl⟩ (fun hHeld => ?_)
 clear hK K
 refine nS_ 38 ?_
 refine pS_ 34 ?_
 refine pS_ 35 ?_
 refine done_ (done_of HT_.out (by kernel_rfl)) ?_
 try go_wp2
 go_ret
 exact ⟨eR_, bw1_ HB GE267⟩}
 {
 rw [if_neg c9] at H
 have c9b0 : (a0_3.toList == ([] : List UInt8)) = false := beq_eq_false_iff_ne.mpr c9
 have c9b1 : (a0_3.toList != ([] : List UInt8)) = true := bne_iff_ne.mpr c9
 replace H := Option.bind_eq_some_iff.mp H
 obtain ⟨t275, A180, H⟩ := H
 have A18 := Aside0.mk A180
 clear A180
 by_cases c19 : t275 = true
 {
 subst c19
 rw [if_pos rfl] at H
 replace H := Option.bind_eq_some_iff.mp H
 obtain ⟨t276, A200, H⟩ := H
 have A20 := Aside0.mk A200
 clear A200
 replace H := Option.bind_eq_some_iff.mp H
 obtain ⟨t279, A210, H⟩ := H
 have A21 := Aside0.mk A210
 clear A210
 obtain rfl := Option.some.inj H
 go_enter Tryz.func31, Tryz.ntmps31
 try go_wp2_with (first | ((with_reducible refine gate_dst (N := 2) rfl ?_); refine box_event ?hg (N := 2) ?hd (cs := #[.string a0_0, .string a0_1, .slice A0_2 l0_2.length c0_2, .string a0_3, .slice A0_4 l0_4.length c0_4]) (t := 54) ?hr ?_; (case hd => rfl); (case hg => rfl); (case hr => first | (go_simp; done) | (go_simp; rfl)); intro gb267 hg w22 hbox hb; have n0_ := Aside0.mk (below_step (bw_ HB) hb); have n1_ := Aside0.mk (hbox); have n2_ := Aside0.mk ((by rw [hg]; exact (below_size (bw_ HB)) : w.heap.size ≤ gb267)); have n3_ := Aside0.mk ((by rw [hg]; exact (below_size (bw_ HB)) : w.heap.size ≤ gb267)); clear HB; have HB := n0_; have BK267 := n1_; have GW267 := n2_; have GE267 := n3_; clear n0_ n1_ n2_ n3_; clear hb hbox hg))
 have n0_ := Aside0.mk (blk_drew BK267.out)
 have n1_ := Aside0.mk (below_drew1 HB.out)
 clear BK267
 clear HB
 have BK267 := n0_
 have HB := n1_
 clear n0_ n1_
 refine start_ (n := 36) (S := fun w' => w'.cell? ⟨gb267, 0, none⟩ = some (.string a0_0) ∧ w'.cell? ⟨gb267, 1, none⟩ = some (.string a0_1) ∧ w'.cell? ⟨gb267, 2, none⟩ = some (.slice A0_2 l0_2.length c0_2) ∧ w'.cell? ⟨gb267, 3, none⟩ = some (.string a0_3) ∧ w'.cell? ⟨gb267, 4, none⟩ = some (.slice A0_4 l0_4.length c0_4)) (ds := []) (bs_ 36 0) (by kernel_rfl) rfl (by kernel_rfl) ⟨(blk_cell BK267.out 0).trans rfl, (blk_cell BK267.out 1).trans rfl, (blk_cell BK267.out 2).trans rfl, (blk_cell BK267.out 3).trans rfl, (blk_cell BK267.out 4).trans rfl⟩ (fun hHeld => ?_); refine with_tabW spec_l12ItemOk.tab1 spec_l12ItemOk.bits1 (fun HT_ HW_ => ?_)
 generalize w22.drew = w23 at BK267 HB hHeld ⊢
 refine pS_ 0 ?_
 refine t5_ 1 hHeld ?_
 refine oS_ 2 (fun K hK => ?_)
 refine gS_ Tryz.func43 #[.string a0_0] ?_
 with_reducible refine (spec_AddressOk.calls k a0_0 true _ A3.out).mono ?_
 rintro e w' ⟨rfl, ⟨nd, rfl⟩⟩
 refine ⟨_, rfl, ?_⟩
 refine hK.out _ _ ⟨(blk_cell BK267.out 0).trans rfl, (blk_cell BK267.out 1).trans rfl, (blk_cell BK267.out 2).trans rfl, (blk_cell BK267.out 3).trans rfl, (blk_cell BK267.out 4).trans rfl⟩ (fun hHeld => ?_)
 clear hK K
 refine nS_ 7 ?_
 refine pS_ 3 ?_
 refine pS_ 4 ?_
 refine t5_ 5 hHeld ?_
 refine oS_ 6 (fun K hK => ?_)
 refine gS_ Tryz.func44 #[.slice A0_4 l0_4.length c0_4] ?_
 with_reducible refine (spec_TreeOk.calls k _ _ l0_4 true _ ?side1 ?side2 A5.out).mono ?_
 (case side1 => repeat (first | exact (Kd.C_below HR0_4.out (bw1_ HB GE267)) | (with_reducible refine Kd.C_alloc ?_ _) | (with_reducible refine Kd.C_drewN ?_ _) | (with_reducible refine Kd.C_drew ?_)))
 (case side2 => exact HC0_4.out)
 rintro e w24 ⟨rfl, hb⟩
 refine ⟨_, rfl, ?_⟩
 have n0_ := Aside0.mk (blk_below (g := gb267) (o := .cells #[.string a0_0, .string a0_1, .slice A0_2 l0_2.length c0_2, .string a0_3, .slice A0_4 l0_4.length c0_4] 54 (0, 0)) (by (with_reducible repeat (first | refine blk_drewN ?_ _ | refine blk_drew ?_ | refine blk_alloc ?_ _)); exact BK267.out) hb)
 have n1_ := Aside0.mk (below_step (bw1_ HB GE267) hb)
 clear BK267
 clear HB
 have BK267 := n0_
 have HB := n1_
 clear n0_ n1_
 (try clear hb)
 (try clear hb2)
 (try clear hk)
 (try clear hi)
 refine hK.out _ _ ⟨(blk_cell BK267.out 0).trans rfl, (blk_cell BK267.out 1).trans rfl, (blk_cell BK267.out 2).trans rfl, (blk_cell BK267.out 3).trans rfl, (blk_cell BK267.out 4).trans rfl⟩ (fun hHeld => ?_)
 clear hK K
 refine nS_ 11 ?_
 refine pS_ 7 ?_
 refine pS_ 8 ?_
 refine pS_ 9 ?_
 refine pS_ 11 ?_
 refine t5_ 10 hHeld ?_
 refine t5_ 12 hHeld ?_
 refine oS_ 13 (fun K hK => ?_)
 refine gS_ Tryz.func59 #[.slice A0_4 l0_4.length c0_4] ?_
 with_reducible refine (spec_TreeSum.calls k _ _ l0_4 t270 _ ?side1 ?side2 A7.out).mono ?_
 (case side1 => exact cS_ HR0_4 HB)
 (case side2 => exact HC0_4.out)
 rintro e w25 ⟨rfl, hb⟩
 refine ⟨_, rfl, ?_⟩
 have n0_ := Aside0.mk (blk_below (g := gb267) (o := .cells #[.string a0_0, .string a0_1, .slice A0_2 l0_2.length c0_2, .string a0_3, .slice A0_4 l0_4.length c0_4] 54 (0, 0)) (by (with_reducible repeat (first | refine blk_drewN ?_ _ | refine blk_drew ?_ | refine blk_alloc ?_ _)); exact BK267.out) hb)
 have n1_ := Aside0.mk (below_step (bw1_ HB GE267) hb)
 clear BK267
 clear HB
 have BK267 := n0_
 have HB := n1_
 clear n0_ n1_
 (try clear hb)
 (try clear hb2)
 (try clear hk)
 (try clear hi)
 refine hK.out _ _ ⟨(blk_cell BK267.out 0).trans rfl, (blk_cell BK267.out 1).trans rfl, (blk_cell BK267.out 2).trans rfl, (blk_cell BK267.out 3).trans rfl, (blk_cell BK267.out 4).trans rfl⟩ (fun hHeld => ?_)
 clear hK K
 refine nS_ 18 ?_
 refine pS_ 14 ?_
 refine pS_ 15 ?_
 refine pS_ 16 ?_
 refine pS_ 17 ?_
 refine t5_ 18 hHeld ?_
 refine pS_ 19 ?_
 refine pS_ 20 ?_
 refine pS_ 21 ?_
 refine t5_ 22 hHeld ?_
 refine oS_ 23 (fun K hK => ?_)
 refine gS_ Tryz.func43 #[.string a0_3] ?_
 with_reducible refine (spec_AddressOk.calls k a0_3 true _ A18.out).mono ?_
 rintro e w' ⟨rfl, ⟨nd, rfl⟩⟩
 refine ⟨_, rfl, ?_⟩
 refine hK.out _ _ ⟨(blk_cell BK267.out 0).trans rfl, (blk_cell BK267.out 1).trans rfl, (blk_cell BK267.out 2).trans rfl, (blk_cell BK267.out 3).trans rfl, (blk_cell BK267.out 4).trans rfl⟩ (fun hHeld => ?_)
 clear hK K
 refine nS_ 28 ?_
 refine pS_ 24 ?_
 refine pS_ 25 ?_
 refine pS_ 26 ?_
 refine pS_ 27 ?_
 refine pS_ 29 ?_
 refine pS_ 31 ?_
 refine t5_ 28 hHeld ?_
 refine t5_ 30 hHeld ?_
 refine oS_ 32 (fun K hK => ?_)
 refine gS_ Tryz.func61 #[.slice A0_4 l0_4.length c0_4, .slice A1 l1.length c1] ?_
 with_reducible refine (spec_l10Refs.calls k _ _ l0_4 _ _ l1 t276 _ ?side1 ?side2 ?side3 ?side4 A20.out).mono ?_
 (case side1 => repeat (first | exact (Kd.C_below HR0_4.out (bw1_ HB GE267)) | (with_reducible refine Kd.C_alloc ?_ _) | (with_reducible refine Kd.C_drewN ?_ _) | (with_reducible refine Kd.C_drew ?_)))
 (case side2 => exact HC0_4.out)
 (case side3 => repeat (first | exact (Kd.C_below HR1.out (bw1_ HB GE267)) | (with_reducible refine Kd.C_alloc ?_ _) | (with_reducible refine Kd.C_drewN ?_ _) | (with_reducible refine Kd.C_drew ?_)))
 (case side4 => exact HC1.out)
 rintro e w26 ⟨v277, rfl, ho0, hb⟩
 refine ⟨_, rfl, ?_⟩
 have n0_ := Aside0.mk (Kd.R_lower ho0 (below_size (bw1_ HB GE267)))
 have n1_ := Aside0.mk (blk_below (g := gb267) (o := .cells #[.string a0_0, .string a0_1, .slice A0_2 l0_2.length c0_2, .string a0_3, .slice A0_4 l0_4.length c0_4] 54 (0, 0)) (by (with_reducible repeat (first | refine blk_drewN ?_ _ | refine blk_drew ?_ | refine blk_alloc ?_ _)); exact BK267.out) hb)
 have n2_ := Aside0.mk (below_step (bw1_ HB GE267) hb)
 clear BK267
 clear HB
 have HO278 := n0_
 have BK267 := n1_
 have HB := n2_
 clear n0_ n1_ n2_
 (try clear hb)
 (try clear hb2)
 (try clear hk)
 (try clear hi)
 (try clear ho0)
 obtain ⟨Ao27, co27, eo27⟩ := Kd.R_slice HO278.out
 (first | subst eo27 | (injection eo27 with f1_ f2_ f3_; have f4_ := f1_.symm; have f5_ := f3_.symm; clear f1_ f2_ f3_; subst f4_; subst f5_))
 refine hK.out _ _ ⟨(blk_cell BK267.out 0).trans rfl, (blk_cell BK267.out 1).trans rfl, (blk_cell BK267.out 2).trans rfl, (blk_cell BK267.out 3).trans rfl, (blk_cell BK267.out 4).trans rfl⟩ (fun hHeld => ?_)
 clear hK K
 refine nS_ 37 ?_
 refine oS_ 33 (fun K hK => ?_)
 refine gS_ Tryz.func60 #[.slice A0_2 l0_2.length c0_2, .slice Ao27 t276.length co27] ?_
 with_reducible refine (spec_l12SameTexts.calls k _ _ l0_2 _ _ t276 t279 _ ?side1 ?side2 ?side3 ?side4 A21.out).mono ?_
 (case side1 => exact cS_ HR0_2 HB)
 (case side2 => exact HC0_2.out)
 (case side3 => repeat (first | exact (Kd.R_reads' HO278.out).2.2 | (with_reducible refine Kd.C_alloc ?_ _) | (with_reducible refine Kd.C_drewN ?_ _) | (with_reducible refine Kd.C_drew ?_)))
 (case side4 => exact (Kd.R_reads' HO278.out).2.1)
 rintro e w' ⟨rfl, ⟨nd, rfl⟩⟩
 refine ⟨_, rfl, ?_⟩
 refine hK.out _ _ ⟨(blk_cell BK267.out 0).trans rfl, (blk_cell BK267.out 1).trans rfl, (blk_cell BK267.out 2).trans rfl, (blk_cell BK267.out 3).trans rfl, (blk_cell BK267.out 4).trans rfl⟩ (fun hHeld => ?_)
 clear hK K
 refine nS_ 38 ?_
 refine pS_ 34 ?_
 refine pS_ 35 ?_
 refine done_ (done_of HT_.out (by kernel_rfl)) ?_
 try go_wp2
 go_ret
 exact ⟨eR_, bw1_ HB GE267⟩}
 {
 replace c19 := Bool.eq_false_iff.mpr c19
 subst c19
 rw [if_neg (show ¬ (false = true) by decide)] at H
 obtain rfl := Option.some.inj H
 go_enter Tryz.func31, Tryz.ntmps31
 try go_wp2_with (first | ((with_reducible refine gate_dst (N := 2) rfl ?_); refine box_event ?hg (N := 2) ?hd (cs := #[.string a0_0, .string a0_1, .slice A0_2 l0_2.length c0_2, .string a0_3, .slice A0_4 l0_4.length c0_4]) (t := 54) ?hr ?_; (case hd => rfl); (case hg => rfl); (case hr => first | (go_simp; done) | (go_simp; rfl)); intro gb267 hg w28 hbox hb; have n0_ := Aside0.mk (below_step (bw_ HB) hb); have n1_ := Aside0.mk (hbox); have n2_ := Aside0.mk ((by rw [hg]; exact (below_size (bw_ HB)) : w.heap.size ≤ gb267)); have n3_ := Aside0.mk ((by rw [hg]; exact (below_size (bw_ HB)) : w.heap.size ≤ gb267)); clear HB; have HB := n0_; have BK267 := n1_; have GW267 := n2_; have GE267 := n3_; clear n0_ n1_ n2_ n3_; clear hb hbox hg))
 have n0_ := Aside0.mk (blk_drew BK267.out)
 have n1_ := Aside0.mk (below_drew1 HB.out)
 clear BK267
 clear HB
 have BK267 := n0_
 have HB := n1_
 clear n0_ n1_
 refine start_ (n := 36) (S := fun w' => w'.cell? ⟨gb267, 0, none⟩ = some (.string a0_0) ∧ w'.cell? ⟨gb267, 1, none⟩ = some (.string a0_1) ∧ w'.cell? ⟨gb267, 2, none⟩ = some (.slice A0_2 l0_2.length c0_2) ∧ w'.cell? ⟨gb267, 3, none⟩ = some (.string a0_3) ∧ w'.cell? ⟨gb267, 4, none⟩ = some (.slice A0_4 l0_4.length c0_4)) (ds := []) (bs_ 36 0) (by kernel_rfl) rfl (by kernel_rfl) ⟨(blk_cell BK267.out 0).trans rfl, (blk_cell BK267.out 1).trans rfl, (blk_cell BK267.out 2).trans rfl, (blk_cell BK267.out 3).trans rfl, (blk_cell BK267.out 4).trans rfl⟩ (fun hHeld => ?_); refine with_tabW spec_l12ItemOk.tab1 spec_l12ItemOk.bits1 (fun HT_ HW_ => ?_)
 generalize w28.drew = w29 at BK267 HB hHeld ⊢
 refine pS_ 0 ?_
 refine t5_ 1 hHeld ?_
 refine oS_ 2 (fun K hK => ?_)
 refine gS_ Tryz.func43 #[.string a0_0] ?_
 with_reducible refine (spec_AddressOk.calls k a0_0 true _ A3.out).mono ?_
 rintro e w' ⟨rfl, ⟨nd, rfl⟩⟩
 refine ⟨_, rfl, ?_⟩
 refine hK.out _ _ ⟨(blk_cell BK267.out 0).trans rfl, (blk_cell BK267.out 1).trans rfl, (blk_cell BK267.out 2).trans rfl, (blk_cell BK267.out 3).trans rfl, (blk_cell BK267.out 4).trans rfl⟩ (fun hHeld => ?_)
 clear hK K
 refine nS_ 7 ?_
 refine pS_ 3 ?_
 refine pS_ 4 ?_
 refine t5_ 5 hHeld ?_
 refine oS_ 6 (fun K hK => ?_)
 refine gS_ Tryz.func44 #[.slice A0_4 l0_4.length c0_4] ?_
 with_reducible refine (spec_TreeOk.calls k _ _ l0_4 true _ ?side1 ?side2 A5.out).mono ?_
 (case side1 => repeat (first | exact (Kd.C_below HR0_4.out (bw1_ HB GE267)) | (with_reducible refine Kd.C_alloc ?_ _) | (with_reducible refine Kd.C_drewN ?_ _) | (with_reducible refine Kd.C_drew ?_)))
 (case side2 => exact HC0_4.out)
 rintro e w30 ⟨rfl, hb⟩
 refine ⟨_, rfl, ?_⟩
 have n0_ := Aside0.mk (blk_below (g := gb267) (o := .cells #[.string a0_0, .string a0_1, .slice A0_2 l0_2.length c0_2, .string a0_3, .slice A0_4 l0_4.length c0_4] 54 (0, 0)) (by (with_reducible repeat (first | refine blk_drewN ?_ _ | refine blk_drew ?_ | refine blk_alloc ?_ _)); exact BK267.out) hb)
 have n1_ := Aside0.mk (below_step (bw1_ HB GE267) hb)
 clear BK267
 clear HB
 have BK267 := n0_
 have HB := n1_
 clear n0_ n1_
 (try clear hb)
 (try clear hb2)
 (try clear hk)
 (try clear hi)
 refine hK.out _ _ ⟨(blk_cell BK267.out 0).trans rfl, (blk_cell BK267.out 1).trans rfl, (blk_cell BK267.out 2).trans rfl, (blk_cell BK267.out 3).trans rfl, (blk_cell BK267.out 4).trans rfl⟩ (fun hHeld => ?_)
 clear hK K
 refine nS_ 11 ?_
 refine pS_ 7 ?_
 refine pS_ 8 ?_
 refine pS_ 9 ?_
 refine pS_ 11 ?_
 refine t5_ 10 hHeld ?_
 refine t5_ 12 hHeld ?_
 refine oS_ 13 (fun K hK => ?_)
 refine gS_ Tryz.func59 #[.slice A0_4 l0_4.length c0_4] ?_
 with_reducible refine (spec_TreeSum.calls k _ _ l0_4 t270 _ ?side1 ?side2 A7.out).mono ?_
 (case side1 => exact cS_ HR0_4 HB)
 (case side2 => exact HC0_4.out)
 rintro e w31 ⟨rfl, hb⟩
 refine ⟨_, rfl, ?_⟩
 have n0_ := Aside0.mk (blk_below (g := gb267) (o := .cells #[.string a0_0, .string a0_1, .slice A0_2 l0_2.length c0_2, .string a0_3, .slice A0_4 l0_4.length c0_4] 54 (0, 0)) (by (with_reducible repeat (first | refine blk_drewN ?_ _ | refine blk_drew ?_ | refine blk_alloc ?_ _)); exact BK267.out) hb)
 have n1_ := Aside0.mk (below_step (bw1_ HB GE267) hb)
 clear BK267
 clear HB
 have BK267 := n0_
 have HB := n1_
 clear n0_ n1_
 (try clear hb)
 (try clear hb2)
 (try clear hk)
 (try clear hi)
 refine hK.out _ _ ⟨(blk_cell BK267.out 0).trans rfl, (blk_cell BK267.out 1).trans rfl, (blk_cell BK267.out 2).trans rfl, (blk_cell BK267.out 3).trans rfl, (blk_cell BK267.out 4).trans rfl⟩ (fun hHeld => ?_)
 clear hK K
 refine nS_ 18 ?_
 refine pS_ 14 ?_
 refine pS_ 15 ?_
 refine pS_ 16 ?_
 refine pS_ 17 ?_
 refine t5_ 18 hHeld ?_
 refine pS_ 19 ?_
 refine pS_ 20 ?_
 refine pS_ 21 ?_
 refine t5_ 22 hHeld ?_
 refine oS_ 23 (fun K hK => ?_)
 refine gS_ Tryz.func43 #[.string a0_3] ?_
 with_reducible refine (spec_AddressOk.calls k a0_3 false _ A18.out).mono ?_
 rintro e w' ⟨rfl, ⟨nd, rfl⟩⟩
 refine ⟨_, rfl, ?_⟩
 refine hK.out _ _ ⟨(blk_cell BK267.out 0).trans rfl, (blk_cell BK267.out 1).trans rfl, (blk_cell BK267.out 2).trans rfl, (blk_cell BK267.out 3).trans rfl, (blk_cell BK267.out 4).trans rfl⟩ (fun hHeld => ?_)
 clear hK K
 refine nS_ 28 ?_
 refine pS_ 24 ?_
 refine pS_ 25 ?_
 refine pS_ 26 ?_
 refine pU_ 27 ?_
 refine pU_ 28 ?_
 refine pU_ 29 ?_
 refine pU_ 30 ?_
 refine pU_ 31 ?_
 refine pU_ 32 ?_
 refine pU_ 33 ?_
 refine pS_ 34 ?_
 refine pS_ 35 ?_
 refine done_ (done_of HT_.out (by kernel_rfl)) ?_
 try go_wp2
 go_ret
 exact ⟨eR_, bw1_ HB GE267⟩}}}
 {
 rw [if_neg c8] at H
 have c8b0 : (a0_1.toList == t270.toList) = false := beq_eq_false_iff_ne.mpr c8
 have c8b1 : (a0_1.toList != t270.toList) = true := bne_iff_ne.mpr c8
 obtain rfl := Option.some.inj H
 go_enter Tryz.func31, Tryz.ntmps31
 try go_wp2_with (first | ((with_reducible refine gate_dst (N := 2) rfl ?_); refine box_event ?hg (N := 2) ?hd (cs := #[.string a0_0, .string a0_1, .slice A0_2 l0_2.length c0_2, .string a0_3, .slice A0_4 l0_4.length c0_4]) (t := 54) ?hr ?_; (case hd => rfl); (case hg => rfl); (case hr => first | (go_simp; done) | (go_simp; rfl)); intro gb267 hg w32 hbox hb; have n0_ := Aside0.mk (below_step (bw_ HB) hb); have n1_ := Aside0.mk (hbox); have n2_ := Aside0.mk ((by rw [hg]; exact (below_size (bw_ HB)) : w.heap.size ≤ gb267)); have n3_ := Aside0.mk ((by rw [hg]; exact (below_size (bw_ HB)) : w.heap.size ≤ gb267)); clear HB; have HB := n0_; have BK267 := n1_; have GW267 := n2_; have GE267 := n3_; clear n0_ n1_ n2_ n3_; clear hb hbox hg))
 have n0_ := Aside0.mk (blk_drew BK267.out)
 have n1_ := Aside0.mk (below_drew1 HB.out)
 clear BK267
 clear HB
 have BK267 := n0_
 have HB := n1_
 clear n0_ n1_
 refine start_ (n := 36) (S := fun w' => w'.cell? ⟨gb267, 0, none⟩ = some (.string a0_0) ∧ w'.cell? ⟨gb267, 1, none⟩ = some (.string a0_1) ∧ w'.cell? ⟨gb267, 2, none⟩ = some (.slice A0_2 l0_2.length c0_2) ∧ w'.cell? ⟨gb267, 3, none⟩ = some (.string a0_3) ∧ w'.cell? ⟨gb267, 4, none⟩ = some (.slice A0_4 l0_4.length c0_4)) (ds := []) (bs_ 36 0) (by kernel_rfl) rfl (by kernel_rfl) ⟨(blk_cell BK267.out 0).trans rfl, (blk_cell BK267.out 1).trans rfl, (blk_cell BK267.out 2).trans rfl, (blk_cell BK267.out 3).trans rfl, (blk_cell BK267.out 4).trans rfl⟩ (fun hHeld => ?_); refine with_tabW spec_l12ItemOk.tab1 spec_l12ItemOk.bits1 (fun HT_ HW_ => ?_)
 generalize w32.drew = w33 at BK267 HB hHeld ⊢
 refine pS_ 0 ?_
 refine t5_ 1 hHeld ?_
 refine oS_ 2 (fun K hK => ?_)
 refine gS_ Tryz.func43 #[.string a0_0] ?_
 with_reducible refine (spec_AddressOk.calls k a0_0 true _ A3.out).mono ?_
 rintro e w' ⟨rfl, ⟨nd, rfl⟩⟩
 refine ⟨_, rfl, ?_⟩
 refine hK.out _ _ ⟨(blk_cell BK267.out 0).trans rfl, (blk_cell BK267.out 1).trans rfl, (blk_cell BK267.out 2).trans rfl, (blk_cell BK267.out 3).trans rfl, (blk_cell BK267.out 4).trans rfl⟩ (fun hHeld => ?_)
 clear hK K
 refine nS_ 7 ?_
 refine pS_ 3 ?_
 refine pS_ 4 ?_
 refine t5_ 5 hHeld ?_
 refine oS_ 6 (fun K hK => ?_)
 refine gS_ Tryz.func44 #[.slice A0_4 l0_4.length c0_4] ?_
 with_reducible refine (spec_TreeOk.calls k _ _ l0_4 true _ ?side1 ?side2 A5.out).mono ?_
 (case side1 => repeat (first | exact (Kd.C_below HR0_4.out (bw1_ HB GE267)) | (with_reducible refine Kd.C_alloc ?_ _) | (with_reducible refine Kd.C_drewN ?_ _) | (with_reducible refine Kd.C_drew ?_)))
 (case side2 => exact HC0_4.out)
 rintro e w34 ⟨rfl, hb⟩
 refine ⟨_, rfl, ?_⟩
 have n0_ := Aside0.mk (blk_below (g := gb267) (o := .cells #[.string a0_0, .string a0_1, .slice A0_2 l0_2.length c0_2, .string a0_3, .slice A0_4 l0_4.length c0_4] 54 (0, 0)) (by (with_reducible repeat (first | refine blk_drewN ?_ _ | refine blk_drew ?_ | refine blk_alloc ?_ _)); exact BK267.out) hb)
 have n1_ := Aside0.mk (below_step (bw1_ HB GE267) hb)
 clear BK267
 clear HB
 have BK267 := n0_
 have HB := n1_
 clear n0_ n1_
 (try clear hb)
 (try clear hb2)
 (try clear hk)
 (try clear hi)
 refine hK.out _ _ ⟨(blk_cell BK267.out 0).trans rfl, (blk_cell BK267.out 1).trans rfl, (blk_cell BK267.out 2).trans rfl, (blk_cell BK267.out 3).trans rfl, (blk_cell BK267.out 4).trans rfl⟩ (fun hHeld => ?_)
 clear hK K
 refine nS_ 11 ?_
 refine pS_ 7 ?_
 refine pS_ 8 ?_
 refine pS_ 9 ?_
 refine pS_ 11 ?_
 refine t5_ 10 hHeld ?_
 refine t5_ 12 hHeld ?_
 refine oS_ 13 (fun K hK => ?_)
 refine gS_ Tryz.func59 #[.slice A0_4 l0_4.length c0_4] ?_
 with_reducible refine (spec_TreeSum.calls k _ _ l0_4 t270 _ ?side1 ?side2 A7.out).mono ?_
 (case side1 => exact cS_ HR0_4 HB)
 (case side2 => exact HC0_4.out)
 rintro e w35 ⟨rfl, hb⟩
 refine ⟨_, rfl, ?_⟩
 have n0_ := Aside0.mk (blk_below (g := gb267) (o := .cells #[.string a0_0, .string a0_1, .slice A0_2 l0_2.length c0_2, .string a0_3, .slice A0_4 l0_4.length c0_4] 54 (0, 0)) (by (with_reducible repeat (first | refine blk_drewN ?_ _ | refine blk_drew ?_ | refine blk_alloc ?_ _)); exact BK267.out) hb)
 have n1_ := Aside0.mk (below_step (bw1_ HB GE267) hb)
 clear BK267
 clear HB
 have BK267 := n0_
 have HB := n1_
 clear n0_ n1_
 (try clear hb)
 (try clear hb2)
 (try clear hk)
 (try clear hi)
 refine hK.out _ _ ⟨(blk_cell BK267.out 0).trans rfl, (blk_cell BK267.out 1).trans rfl, (blk_cell BK267.out 2).trans rfl, (blk_cell BK267.out 3).trans rfl, (blk_cell BK267.out 4).trans rfl⟩ (fun hHeld => ?_)
 clear hK K
 refine nS_ 18 ?_
 refine pS_ 14 ?_
 refine pS_ 15 ?_
 refine pS_ 16 ?_
 refine pU_ 17 ?_
 refine pU_ 18 ?_
 refine pU_ 19 ?_
 refine pU_ 20 ?_
 refine pU_ 21 ?_
 refine pU_ 22 ?_
 refine pU_ 23 ?_
 refine pU_ 24 ?_
 refine pS_ 25 ?_
 refine pS_ 26 ?_
 refine pU_ 27 ?_
 refine pU_ 28 ?_
 refine pU_ 29 ?_
 refine pU_ 30 ?_
 refine pU_ 31 ?_
 refine pU_ 32 ?_
 refine pU_ 33 ?_
 refine pS_ 34 ?_
 refine pS_ 35 ?_
 refine done_ (done_of HT_.out (by kernel_rfl)) ?_
 try go_wp2
 go_ret
 exact ⟨eR_, bw1_ HB GE267⟩}}
 {
 replace c6 := Bool.eq_false_iff.mpr c6
 subst c6
 rw [if_neg (show ¬ (false = true) by decide)] at H
 obtain rfl := Option.some.inj H
 go_enter Tryz.func31, Tryz.ntmps31
 try go_wp2_with (first | ((with_reducible refine gate_dst (N := 2) rfl ?_); refine box_event ?hg (N := 2) ?hd (cs := #[.string a0_0, .string a0_1, .slice A0_2 l0_2.length c0_2, .string a0_3, .slice A0_4 l0_4.length c0_4]) (t := 54) ?hr ?_; (case hd => rfl); (case hg => rfl); (case hr => first | (go_simp; done) | (go_simp; rfl)); intro gb267 hg w36 hbox hb; have n0_ := Aside0.mk (below_step (bw_ HB) hb); have n1_ := Aside0.mk (hbox); have n2_ := Aside0.mk ((by rw [hg]; exact (below_size (bw_ HB)) : w.heap.size ≤ gb267)); have n3_ := Aside0.mk ((by rw [hg]; exact (below_size (bw_ HB)) : w.heap.size ≤ gb267)); clear HB; have HB := n0_; have BK267 := n1_; have GW267 := n2_; have GE267 := n3_; clear n0_ n1_ n2_ n3_; clear hb hbox hg))
 have n0_ := Aside0.mk (blk_drew BK267.out)
 have n1_ := Aside0.mk (below_drew1 HB.out)
 clear BK267
 clear HB
 have BK267 := n0_
 have HB := n1_
 clear n0_ n1_
 refine start_ (n := 36) (S := fun w' => w'.cell? ⟨gb267, 0, none⟩ = some (.string a0_0) ∧ w'.cell? ⟨gb267, 1, none⟩ = some (.string a0_1) ∧ w'.cell? ⟨gb267, 2, none⟩ = some (.slice A0_2 l0_2.length c0_2) ∧ w'.cell? ⟨gb267, 3, none⟩ = some (.string a0_3) ∧ w'.cell? ⟨gb267, 4, none⟩ = some (.slice A0_4 l0_4.length c0_4)) (ds := []) (bs_ 36 0) (by kernel_rfl) rfl (by kernel_rfl) ⟨(blk_cell BK267.out 0).trans rfl, (blk_cell BK267.out 1).trans rfl, (blk_cell BK267.out 2).trans rfl, (blk_cell BK267.out 3).trans rfl, (blk_cell BK267.out 4).trans rfl⟩ (fun hHeld => ?_); refine with_tabW spec_l12ItemOk.tab1 spec_l12ItemOk.bits1 (fun HT_ HW_ => ?_)
 generalize w36.drew = w37 at BK267 HB hHeld ⊢
 refine pS_ 0 ?_
 refine t5_ 1 hHeld ?_
 refine oS_ 2 (fun K hK => ?_)
 refine gS_ Tryz.func43 #[.string a0_0] ?_
 with_reducible refine (spec_AddressOk.calls k a0_0 true _ A3.out).mono ?_
 rintro e w' ⟨rfl, ⟨nd, rfl⟩⟩
 refine ⟨_, rfl, ?_⟩
 refine hK.out _ _ ⟨(blk_cell BK267.out 0).trans rfl, (blk_cell BK267.out 1).trans rfl, (blk_cell BK267.out 2).trans rfl, (blk_cell BK267.out 3).trans rfl, (blk_cell BK267.out 4).trans rfl⟩ (fun hHeld => ?_)
 clear hK K
 refine nS_ 7 ?_
 refine pS_ 3 ?_
 refine pS_ 4 ?_
 refine t5_ 5 hHeld ?_
 refine oS_ 6 (fun K hK => ?_)
 refine gS_ Tryz.func44 #[.slice A0_4 l0_4.length c0_4] ?_
 with_reducible refine (spec_TreeOk.calls k _ _ l0_4 false _ ?side1 ?side2 A5.out).mono ?_
 (case side1 => repeat (first | exact (Kd.C_below HR0_4.out (bw1_ HB GE267)) | (with_reducible refine Kd.C_alloc ?_ _) | (with_reducible refine Kd.C_drewN ?_ _) | (with_reducible refine Kd.C_drew ?_)))
 (case side2 => exact HC0_4.out)
 rintro e w38 ⟨rfl, hb⟩
 refine ⟨_, rfl, ?_⟩
 have n0_ := Aside0.mk (blk_below (g := gb267) (o := .cells #[.string a0_0, .string a0_1, .slice A0_2 l0_2.length c0_2, .string a0_3, .slice A0_4 l0_4.length c0_4] 54 (0, 0)) (by (with_reducible repeat (first | refine blk_drewN ?_ _ | refine blk_drew ?_ | refine blk_alloc ?_ _)); exact BK267.out) hb)
 have n1_ := Aside0.mk (below_step (bw1_ HB GE267) hb)
 clear BK267
 clear HB
 have BK267 := n0_
 have HB := n1_
 clear n0_ n1_
 (try clear hb)
 (try clear hb2)
 (try clear hk)
 (try clear hi)
 refine hK.out _ _ ⟨(blk_cell BK267.out 0).trans rfl, (blk_cell BK267.out 1).trans rfl, (blk_cell BK267.out 2).trans rfl, (blk_cell BK267.out 3).trans rfl, (blk_cell BK267.out 4).trans rfl⟩ (fun hHeld => ?_)
 clear hK K
 refine nS_ 11 ?_
 refine pS_ 7 ?_
 refine pS_ 8 ?_
 refine pU_ 9 ?_
 refine pU_ 10 ?_
 refine pU_ 11 ?_
 refine pU_ 12 ?_
 refine pU_ 13 ?_
 refine pU_ 14 ?_
 refine pS_ 15 ?_
 refine pS_ 16 ?_
 refine pU_ 17 ?_
 refine pU_ 18 ?_
 refine pU_ 19 ?_
 refine pU_ 20 ?_
 refine pU_ 21 ?_
 refine pU_ 22 ?_
 refine pU_ 23 ?_
 refine pU_ 24 ?_
 refine pS_ 25 ?_
 refine pS_ 26 ?_
 refine pU_ 27 ?_
 refine pU_ 28 ?_
 refine pU_ 29 ?_
 refine pU_ 30 ?_
 refine pU_ 31 ?_
 refine pU_ 32 ?_
 refine pU_ 33 ?_
 refine pS_ 34 ?_
 refine pS_ 35 ?_
 refine done_ (done_of HT_.out (by kernel_rfl)) ?_
 try go_wp2
 go_ret
 exact ⟨eR_, bw1_ HB GE267⟩}}
 {
 replace c4 := Bool.eq_false_iff.mpr c4
 subst c4
 rw [if_neg (show ¬ (false = true) by decide)] at H
 obtain rfl := Option.some.inj H
 go_enter Tryz.func31, Tryz.ntmps31
 try go_wp2_with (first | ((with_reducible refine gate_dst (N := 2) rfl ?_); refine box_event ?hg (N := 2) ?hd (cs := #[.string a0_0, .string a0_1, .slice A0_2 l0_2.length c0_2, .string a0_3, .slice A0_4 l0_4.length c0_4]) (t := 54) ?hr ?_; (case hd => rfl); (case hg => rfl); (case hr => first | (go_simp; done) | (go_simp; rfl)); intro gb267 hg w39 hbox hb; have n0_ := Aside0.mk (below_step (bw_ HB) hb); have n1_ := Aside0.mk (hbox); have n2_ := Aside0.mk ((by rw [hg]; exact (below_size (bw_ HB)) : w.heap.size ≤ gb267)); have n3_ := Aside0.mk ((by rw [hg]; exact (below_size (bw_ HB)) : w.heap.size ≤ gb267)); clear HB; have HB := n0_; have BK267 := n1_; have GW267 := n2_; have GE267 := n3_; clear n0_ n1_ n2_ n3_; clear hb hbox hg))
 have n0_ := Aside0.mk (blk_drew BK267.out)
 have n1_ := Aside0.mk (below_drew1 HB.out)
 clear BK267
 clear HB
 have BK267 := n0_
 have HB := n1_
 clear n0_ n1_
 refine start_ (n := 36) (S := fun w' => w'.cell? ⟨gb267, 0, none⟩ = some (.string a0_0) ∧ w'.cell? ⟨gb267, 1, none⟩ = some (.string a0_1) ∧ w'.cell? ⟨gb267, 2, none⟩ = some (.slice A0_2 l0_2.length c0_2) ∧ w'.cell? ⟨gb267, 3, none⟩ = some (.string a0_3) ∧ w'.cell? ⟨gb267, 4, none⟩ = some (.slice A0_4 l0_4.length c0_4)) (ds := []) (bs_ 36 0) (by kernel_rfl) rfl (by kernel_rfl) ⟨(blk_cell BK267.out 0).trans rfl, (blk_cell BK267.out 1).trans rfl, (blk_cell BK267.out 2).trans rfl, (blk_cell BK267.out 3).trans rfl, (blk_cell BK267.out 4).trans rfl⟩ (fun hHeld => ?_); refine with_tabW spec_l12ItemOk.tab1 spec_l12ItemOk.bits1 (fun HT_ HW_ => ?_)
 generalize w39.drew = w40 at BK267 HB hHeld ⊢
 refine pS_ 0 ?_
 refine t5_ 1 hHeld ?_
 refine oS_ 2 (fun K hK => ?_)
 refine gS_ Tryz.func43 #[.string a0_0] ?_
 with_reducible refine (spec_AddressOk.calls k a0_0 false _ A3.out).mono ?_
 rintro e w' ⟨rfl, ⟨nd, rfl⟩⟩
 refine ⟨_, rfl, ?_⟩
 refine hK.out _ _ ⟨(blk_cell BK267.out 0).trans rfl, (blk_cell BK267.out 1).trans rfl, (blk_cell BK267.out 2).trans rfl, (blk_cell BK267.out 3).trans rfl, (blk_cell BK267.out 4).trans rfl⟩ (fun hHeld => ?_)
 clear hK K
 refine nS_ 7 ?_
 refine pS_ 3 ?_
 refine pU_ 4 ?_
 refine pU_ 5 ?_
 refine pU_ 6 ?_
 refine pS_ 7 ?_
 refine pS_ 8 ?_
 refine pU_ 9 ?_
 refine pU_ 10 ?_
 refine pU_ 11 ?_
 refine pU_ 12 ?_
 refine pU_ 13 ?_
 refine pU_ 14 ?_
 refine pS_ 15 ?_
 refine pS_ 16 ?_
 refine pU_ 17 ?_
 refine pU_ 18 ?_
 refine pU_ 19 ?_
 refine pU_ 20 ?_
 refine pU_ 21 ?_
 refine pU_ 22 ?_
 refine pU_ 23 ?_
 refine pU_ 24 ?_
 refine pS_ 25 ?_
 refine pS_ 26 ?_
 refine pU_ 27 ?_
 refine pU_ 28 ?_
 refine pU_ 29 ?_
 refine pU_ 30 ?_
 refine pU_ 31 ?_
 refine pU_ 32 ?_
 refine pU_ 33 ?_
 refine pS_ 34 ?_
 refine pS_ 35 ?_
 refine done_ (done_of HT_.out (by kernel_rfl)) ?_
 try go_wp2
 go_ret
 exact ⟨eR_, bw1_ HB GE267⟩
}
end Go.Proofs.YtkhhkpjeafknpaaGreatDoor.P
end

section
namespace Go.Proofs.YtkhhkpjeafknpaaGreatDoor.P
open Go.RowKit Go.Proofs.YtkhhkpjeafknpaaGreatDoorW.PrintWords Go.Proofs.YtkhhkpjeafknpaaGreatDoorW.PrintLast Go.Proofs.YtkhhkpjeafknpaaGreatDoorW.PrintMore Go.Proofs.YtkhhkpjeafknpaaGreatDoorM
attribute [local go_sem] max2_int min2_int max_two min_two max_three min_three max_four min_four
set_option linter.unusedVariables false
set_option linter.unusedSimpArgs false
def spec_StoreOk.l0 : Nat → List (S54) → List ByteArray → Int → Option (Bool)
 | 0, _, _, _ => none
 | k + 1, x0, x3, x4 => if x4 < (x0.length : Int) then (if x4 > 0 then (if 0 ≤ (wrap64 (x4 - 1)) then (if (wrap64 (x4 - 1)) < (x3.length : Int) then (if 0 ≤ x4 then (if x4 < (x3.length : Int) then (if ((Op.bytesLess ((rdOf ByteArray.empty x3 (wrap64 (x4 - 1))).toList) ((rdOf ByteArray.empty x3 x4).toList)) = true) then ((spec_l12ItemOk.f k ((rd_T54 x0 x4).f0) ((rd_T54 x0 x4).f1) ((rd_T54 x0 x4).f2) ((rd_T54 x0 x4).f3) ((rd_T54 x0 x4).f4) x3).bind fun t286 => (if t286 = true then (spec_StoreOk.l0 k x0 x3 (wrap64 (x4 + 1))) else (some false))) else (some false)) else (none)) else (none)) else (none)) else (none)) else (if 0 ≤ x4 then ((spec_l12ItemOk.f k ((rd_T54 x0 x4).f0) ((rd_T54 x0 x4).f1) ((rd_T54 x0 x4).f2) ((rd_T54 x0 x4).f3) ((rd_T54 x0 x4).f4) x3).bind fun t288 => (if t288 = true then (spec_StoreOk.l0 k x0 x3 (wrap64 (x4 + 1))) else (some false))) else (none))) else (some true)
def spec_StoreOk.f (k : Nat) (l0 : List (S54)) : Option (Bool) := if (l0.length : Int) > 300 then (some false) else ((spec_l12Paths.f k l0).bind fun t280 => (spec_StoreOk.l0 k l0 t280 0))
def spec_StoreOk.T7 : Bool × List (List Nat × List Nat) := (true, [([], []), ([0], [0]), ([1], [1]), ([2], [2]), ([2], [2]), ([4, 2], [2, 4]), ([3, 5, 2], [2, 3, 5]), ([6, 2], [2, 6]), ([2], [2]), ([2], [2]), ([8, 9, 2], [2, 8, 9]), ([10, 2], [2, 10]), ([7, 11, 2], [2, 7, 11]), ([2, 12], [2, 12]), ([13, 2], [13]), ([14], [14]), ([14], [14]), ([15, 16, 14], [14, 15, 16]), ([17, 14], [14, 17]), ([14], [14]), ([18, 19, 14, 14], [14, 18, 19]), ([20, 14], [14, 20]), ([14, 21], [14, 21])])
def spec_StoreOk.B7 : List Nat := [0, 1, 3, 7, 7, 23, 63, 127, 7, 7, 775, 1799, 4095, 8191, 16383, 32767, 32767, 131071, 262143, 32767, 1048575, 2097151, 4194303]
theorem spec_StoreOk.tab7 : rtab .any (opsOf Tryz.f8 7) = spec_StoreOk.T7 := by kernel_rfl
theorem spec_StoreOk.bits7 : waitsOk spec_StoreOk.T7.2 spec_StoreOk.B7 = true := by kernel_rfl
set_option maxHeartbeats 8000000 in
set_option maxRecDepth 100000 in
theorem spec_StoreOk.calls (k : Nat) (A0 : Option Addr) (c0 : Nat) (l0 : List (S54)) (r : Bool) (w : World) (hr0 : Kd.C k54 w A0 l0.length l0) (hc0 : l0.length ≤ c0) (h : spec_StoreOk.f k l0 = some r) :
 Calls Tryz.prog 8 #[.slice A0 l0.length c0] w fun e w' => e = .returned (.bool r) ∧ Below w.heap.size w w' := by
 have hu54 := Tryz.underlying54
 have HR0 := Aside0.mk hr0
 have HC0 := Aside0.mk hc0
 clear hr0 hc0
 have HB := Aside0.mk (Below.refl w.heap.size w)
 have H : (if (l0.length : Int) > 300 then (some false) else ((spec_l12Paths.f k l0).bind fun t280 => (spec_StoreOk.l0 k l0 t280 0))) = some r := h
 clear h
 by_cases c2 : (l0.length : Int) > 300
 {
 rw [if_pos c2] at H
 have c2b0 : decide (300 < (l0.length : Int)) = true := decide_eq_true c2
 have c2b1 : decide (300 < l0.length) = true := decide_eq_true (by omega)
 clear c2
 obtain rfl := Option.some.inj H
 go_enter Tryz.func8, Tryz.ntmps8
 go_wp2
 go_ret
 exact ⟨eR_, bw_ HB⟩}
 {
 rw [if_neg c2] at H
 have c2b0 : decide (300 < (l0.length : Int)) = false := decide_eq_false c2
 have c2b1 : decide (300 < l0.length) = false := decide_eq_false (by omega)
 clear c2
 replace H := Option.bind_eq_some_iff.mp H
 obtain ⟨t280, A30, H⟩ := H
 have A3 := Aside0.mk A30
 clear A30
 have H' := Aside0.mk H
 clear H
 go_enter Tryz.func8, Tryz.ntmps8
 go_wp2_with (first | ((with_reducible refine gate_callee (f := 30) rfl ?_); refine gL_ (some 9) Tryz.func30 #[.slice A0 l0.length c0] ?_; (with_reducible refine (spec_l12Paths.calls k _ _ l0 t280 _ ?side1 ?side2 A3.out).mono ?_); (case side1 => repeat (first | exact HR0.out | (with_reducible refine Kd.C_alloc ?_ _) | (with_reducible refine Kd.C_drewN ?_ _) | (with_reducible refine Kd.C_drew ?_))); (case side2 => exact HC0.out); rintro e w4 ⟨v281, rfl, ho0, hb⟩; refine ⟨_, rfl, ?_⟩; have n0_ := Aside0.mk (Kd.R_lower ho0 (below_size (bw_ HB))); have n1_ := Aside0.mk (below_step (bw_ HB) hb); clear HB; have HO282 := n0_; have HB := n1_; clear n0_ n1_; (try clear hb); (try clear hb2); (try clear hk); (try clear hi); (try clear ho0)))
 go_loopg [4] k (fun kq v4 w' => ∃ (x4_1 : Int), v4 = .int .i64 x4_1 ∧ Aside0 (spec_StoreOk.l0 kq l0 t280 x4_1 = some r) ∧ Aside0 (kq ≤ k) ∧ Aside0 (Kd.R Kd.string 9 w' w.heap.size (fun _ => True) v281 t280) ∧ Aside0 (Below w.heap.size w w'))
 case atStart => exact ⟨(0), (by first | rfl | (simp; done) | (simp [*]; done)), H', ⟨Nat.le_refl _⟩, ⟨by (with_reducible repeat (first | apply Kd.R_alloc | apply Kd.R_drewN | apply Kd.R_drew)); exact HO282.out⟩, ⟨bw_ HB⟩⟩
 case round =>
  clear H'
  try clear c2
  try clear c2b0
  try clear c2b1
  try clear p2
  try clear c3
  obtain ⟨x4_1, rfl, HA, HK1, HO_3, HB⟩ := hrel
  cases gk with
  | zero => exact absurd HA.out (by simp [spec_StoreOk.l0])
  | succ k1 =>
   have H := HA.out
   clear HA
   simp only [spec_StoreOk.l0] at H
   by_cases c5 : x4_1 < (l0.length : Int)
   {
   rw [if_pos c5] at H
   have c5b0 : decide (x4_1 < (l0.length : Int)) = true := decide_eq_true c5
   clear c5
   by_cases c6 : x4_1 > 0
   {
   rw [if_pos c6] at H
   have c6b0 : decide (0 < x4_1) = true := decide_eq_true c6
   clear c6
   obtain ⟨ji7, hji7⟩ : ∃ j_ : Int, (wrap64 (x4_1 - 1)) = j_ := ⟨_, rfl⟩
   replace H : (if 0 ≤ (ji7) then (if (ji7) < (t280.length : Int) then (if 0 ≤ x4_1 then (if x4_1 < (t280.length : Int) then (if ((Op.bytesLess ((rdOf ByteArray.empty t280 (ji7)).toList) ((rdOf ByteArray.empty t280 x4_1).toList)) = true) then ((spec_l12ItemOk.f k1 ((rd_T54 l0 x4_1).f0) ((rd_T54 l0 x4_1).f1) ((rd_T54 l0 x4_1).f2) ((rd_T54 l0 x4_1).f3) ((rd_T54 l0 x4_1).f4) t280).bind fun t286 => (if t286 = true then (spec_StoreOk.l0 k1 l0 t280 (wrap64 (x4_1 + 1))) else (some false))) else (some false)) else (none)) else (none)) else (none)) else (none)) = some r := by first | (rw [hji7] at H; exact H) | (simp only [hji7] at H ⊢; exact H)
   have hji7w : (IntKind.i64.wrap (x4_1 - 1)) = ji7 := (i64_w _).trans hji7
   by_cases c8 : 0 ≤ (ji7)
   {
   rw [if_pos c8] at H
   have c8b0 : decide (0 ≤ (ji7)) = true := decide_eq_true c8
   clear c8
   by_cases c9 : (ji7) < (t280.length : Int)
   {
   rw [if_pos c9] at H
   have c9b0 : decide ((ji7) < (t280.length : Int)) = true := decide_eq_true c9
   clear c9
   by_cases c10 : 0 ≤ x4_1
   {
   rw [if_pos c10] at H
   have c10b0 : decide (0 ≤ x4_1) = true := decide_eq_true c10
   clear c10
   by_cases c11 : x4_1 < (t280.length : Int)
   {
   rw [if_pos c11] at H
   have c11b0 : decide (x4_1 < (t280.length : Int)) = true := decide_eq_true c11
   clear c11
   by_cases c12 : ((Op.bytesLess ((rdOf ByteArray.empty t280 (ji7)).toList) ((rdOf ByteArray.empty t280 x4_1).toList)) = true)
   {
   rw [if_pos c12] at H
   have c12b0 : (Op.bytesLess ((rdOf ByteArray.empty t280 (ji7)).toList) ((rdOf ByteArray.empty t280 x4_1).toList)) = true := c12
   clear c12
   replace H := Option.bind_eq_some_iff.mp H
   obtain ⟨t286, A130, H⟩ := H
   have A13 := Aside0.mk A130
   clear A130
   by_cases c14 : t286 = true
   {
   subst c14
   rw [if_pos rfl] at H
   have H' := Aside0.mk H
   clear H
   try go_wp2
   have n0_ := Aside0.mk (Kd.R_drew HO_3.out)
   have n1_ := Aside0.mk (below_drew1 HB.out)
   clear HO_3
   clear HB
   have HO_3 := n0_
   have HB := n1_
   clear n0_ n1_
   obtain ⟨Ao16, co16, eo16⟩ := Kd.R_slice HO_3.out
   (first | subst eo16 | (injection eo16 with f1_ f2_ f3_; have f4_ := f1_.symm; have f5_ := f3_.symm; clear f1_ f2_ f3_; subst f4_; subst f5_))
   have p283 : 0 ≤ ((ji7) : Int) := dA_
   have q283 : (ji7) < (t280.length : Int) := dA_
   obtain ⟨ad283, e283, hx283_0⟩ := Kd.at_string (Kd.R_reads' HO_3.out).2.2 (ji7) p283 q283
   cases e283
   replace p283 := eq_true p283
   replace q283 := eq_true q283
   have p284 : 0 ≤ (x4_1 : Int) := dA_
   have q284 : x4_1 < (t280.length : Int) := dA_
   obtain ⟨ad284, e284, hx284_0⟩ := Kd.at_string (Kd.R_reads' HO_3.out).2.2 x4_1 p284 q284
   obtain rfl : ad283 = ad284 := (by injection e284)
   replace p284 := eq_true p284
   replace q284 := eq_true q284
   have p285 : 0 ≤ (x4_1 : Int) := dA_
   have q285 : x4_1 < (l0.length : Int) := dA_
   obtain ⟨ad285, A285_2, c285_2, A285_4, c285_4, e285, hx285_0, hx285_1, hx285_2, hx285_3, hx285_4, hl285_2, hi285_2, hl285_4, hi285_4⟩ := at_T54 HR0.out x4_1 p285 q285
   have hw285_4 := hx285_4
   have hw285_3 := hx285_3
   have hw285_2 := hx285_2
   have hw285_1 := hx285_1
   have hw285_0 := hx285_0
   cases e285
   replace hx285_0 := hX_ HB hx285_0
   replace hx285_1 := hX_ HB hx285_1
   replace hx285_2 := hX_ HB hx285_2
   replace hx285_3 := hX_ HB hx285_3
   replace hx285_4 := hX_ HB hx285_4
   have HR285_2 := Aside0.mk hi285_2
   have HC285_2 := Aside0.mk hl285_2
   clear hi285_2 hl285_2
   have HR285_4 := Aside0.mk hi285_4
   have HC285_4 := Aside0.mk hl285_4
   clear hi285_4 hl285_4
   replace p285 := eq_true p285
   replace q285 := eq_true q285
   refine start_ (n := 23) (S := fun w' => w'.cell? (ad283.add ((ji7)).toNat) = some (.string (rdOf ByteArray.empty t280 (ji7))) ∧ w'.cell? (ad283.add (x4_1).toNat) = some (.string (rdOf ByteArray.empty t280 x4_1)) ∧ w'.cell? (ad285.add ((x4_1).toNat * 5)) = some (.string ((rd_T54 l0 x4_1).f0)) ∧ w'.cell? ⟨(ad285.add ((x4_1).toNat * 5)).block, (ad285.add ((x4_1).toNat * 5)).off + 1, none⟩ = some (.string ((rd_T54 l0 x4_1).f1)) ∧ w'.cell? ⟨(ad285.add ((x4_1).toNat * 5)).block, (ad285.add ((x4_1).toNat * 5)).off + 2, none⟩ = some (.slice A285_2 ((rd_T54 l0 x4_1).f2).length c285_2) ∧ w'.cell? ⟨(ad285.add ((x4_1).toNat * 5)).block, (ad285.add ((x4_1).toNat * 5)).off + 3, none⟩ = some (.string ((rd_T54 l0 x4_1).f3)) ∧ w'.cell? ⟨(ad285.add ((x4_1).toNat * 5)).block, (ad285.add ((x4_1).toNat * 5)).off + 4, none⟩ = some (.slice A285_4 ((rd_T54 l0 x4_1).f4).length c285_4)) (ds := []) (bs_ 23 0) (by kernel_rfl) rfl (by kernel_rfl) ⟨hx283_0, hx284_0, ((HB.out.cell (World.block_lt_of_cell? w _ hw285_0)).trans hw285_0), ((HB.out.cell (World.block_lt_of_cell? w _ hw285_1)).trans hw285_1), ((HB.out.cell (World.block_lt_of_cell? w _ hw285_2)).trans hw285_2), ((HB.out.cell (World.block_lt_of_cell? w _ hw285_3)).trans hw285_3), ((HB.out.cell (World.block_lt_of_cell? w _ hw285_4)).trans hw285_4)⟩ (fun hHeld => ?_); refine with_tabW spec_StoreOk.tab7 spec_StoreOk.bits7 (fun HT_ HW_ => ?_)
   generalize wr.drew = w15 at HO_3 HB HR285_2 HR285_4 hx283_0 hx284_0 hx285_0 hx285_1 hx285_2 hx285_3 hx285_4 hHeld ⊢
   refine pS_ 0 ?_
   refine pS_ 1 ?_
   refine pS_ 2 ?_
   refine pS_ 3 ?_
   refine pS_ 4 ?_
   refine pS_ 5 ?_
   refine pS_ 6 ?_
   refine pS_ 8 ?_
   refine pS_ 9 ?_
   refine pS_ 10 ?_
   refine t7_ 7 hHeld ?_
   refine t7_ 11 hHeld ?_
   refine pS_ 12 ?_
   refine pS_ 13 ?_
   refine pS_ 14 ?_
   refine pS_ 15 ?_
   refine pS_ 16 ?_
   refine pS_ 17 ?_
   refine pS_ 19 ?_
   refine t7_ 18 hHeld ?_
   refine oS_ 20 (fun K hK => ?_)
   refine gS_ Tryz.func31 #[.agg #[.string ((rd_T54 l0 x4_1).f0), .string ((rd_T54 l0 x4_1).f1), .slice A285_2 ((rd_T54 l0 x4_1).f2).length c285_2, .string ((rd_T54 l0 x4_1).f3), .slice A285_4 ((rd_T54 l0 x4_1).f4).length c285_4], .slice (some ad283) t280.length co16] ?_
   with_reducible refine (spec_l12ItemOk.calls k1 ((rd_T54 l0 x4_1).f0) ((rd_T54 l0 x4_1).f1) _ _ ((rd_T54 l0 x4_1).f2) ((rd_T54 l0 x4_1).f3) _ _ ((rd_T54 l0 x4_1).f4) _ _ t280 true _ ?side1 ?side2 ?side3 ?side4 ?side5 ?side6 A13.out).mono ?_
   (case side1 => exact cS_ HR285_2 HB)
   (case side2 => exact HC285_2.out)
   (case side3 => exact cS_ HR285_4 HB)
   (case side4 => exact HC285_4.out)
   (case side5 => repeat (first | exact (Kd.R_reads' HO_3.out).2.2 | (with_reducible refine Kd.C_alloc ?_ _) | (with_reducible refine Kd.C_drewN ?_ _) | (with_reducible refine Kd.C_drew ?_)))
   (case side6 => exact (Kd.R_reads' HO_3.out).2.1)
   rintro e w17 ⟨rfl, hb⟩
   have HS0_ := (hb.cell (World.block_lt_of_cell? _ _ (hHeld.1))).trans (hHeld.1)
   have HS1_ := (hb.cell (World.block_lt_of_cell? _ _ (hHeld.2.1))).trans (hHeld.2.1)
   refine ⟨_, rfl, ?_⟩
   have n0_ := Aside0.mk (Kd.R_below (by (with_reducible repeat (first | apply Kd.R_alloc | apply Kd.R_drewN | apply Kd.R_drew)); exact HO_3.out) hb)
   have n1_ := Aside0.mk (below_step (bw_ HB) hb)
   clear HO_3
   clear HB
   have HO_3 := n0_
   have HB := n1_
   clear n0_ n1_
   (try clear hb)
   (try clear hb2)
   (try clear hk)
   (try clear hi)
   refine hK.out _ _ ⟨HS0_, HS1_, ((HB.out.cell (World.block_lt_of_cell? w _ hw285_0)).trans hw285_0), ((HB.out.cell (World.block_lt_of_cell? w _ hw285_1)).trans hw285_1), ((HB.out.cell (World.block_lt_of_cell? w _ hw285_2)).trans hw285_2), ((HB.out.cell (World.block_lt_of_cell? w _ hw285_3)).trans hw285_3), ((HB.out.cell (World.block_lt_of_cell? w _ hw285_4)).trans hw285_4)⟩ (fun hHeld => ?_)
   clear hK K
   refine nS_ 36 ?_
   refine pS_ 21 ?_
   refine pS_ 22 ?_
   refine done_ (done_of HT_.out (by kernel_rfl)) ?_
   try go_wp2
   go_roundg k1
   case measure => have := HK1.out; omega
   case rel => exact ⟨(wrap64 (x4_1 + 1)), (by first | rfl | (simp; done) | (simp [*]; done)), H', ⟨by have := HK1.out; omega⟩, ⟨by (with_reducible repeat (first | apply Kd.R_alloc | apply Kd.R_drewN | apply Kd.R_drew)); exact HO_3.out⟩, ⟨bw_ HB⟩⟩}
   {
   replace c14 := Bool.eq_false_iff.mpr c14
   subst c14
   rw [if_neg (show ¬ (false = true) by decide)] at H
   obtain rfl := Option.some.inj H
   try go_wp2
   have n0_ := Aside0.mk (Kd.R_drew HO_3.out)
   have n1_ := Aside0.mk (below_drew1 HB.out)
   clear HO_3
   clear HB
   have HO_3 := n0_
   have HB := n1_
   clear n0_ n1_
   obtain ⟨Ao19, co19, eo19⟩ := Kd.R_slice HO_3.out
   (first | subst eo19 | (injection eo19 with f1_ f2_ f3_; have f4_ := f1_.symm; have f5_ := f3_.symm; clear f1_ f2_ f3_; subst f4_; subst f5_))
   have p283 : 0 ≤ ((ji7) : Int) := dA_
   have q283 : (ji7) < (t280.length : Int) := dA_
   obtain ⟨ad283, e283, hx283_0⟩ := Kd.at_string (Kd.R_reads' HO_3.out).2.2 (ji7) p283 q283
   cases e283
   replace p283 := eq_true p283
   replace q283 := eq_true q283
   have p284 : 0 ≤ (x4_1 : Int) := dA_
   have q284 : x4_1 < (t280.length : Int) := dA_
   obtain ⟨ad284, e284, hx284_0⟩ := Kd.at_string (Kd.R_reads' HO_3.out).2.2 x4_1 p284 q284
   obtain rfl : ad283 = ad284 := (by injection e284)
   replace p284 := eq_true p284
   replace q284 := eq_true q284
   have p285 : 0 ≤ (x4_1 : Int) := dA_
   have q285 : x4_1 < (l0.length : Int) := dA_
   obtain ⟨ad285, A285_2, c285_2, A285_4, c285_4, e285, hx285_0, hx285_1, hx285_2, hx285_3, hx285_4, hl285_2, hi285_2, hl285_4, hi285_4⟩ := at_T54 HR0.out x4_1 p285 q285
   have hw285_4 := hx285_4
   have hw285_3 := hx285_3
   have hw285_2 := hx285_2
   have hw285_1 := hx285_1
   have hw285_0 := hx285_0
   cases e285
   replace hx285_0 := hX_ HB hx285_0
   replace hx285_1 := hX_ HB hx285_1
   replace hx285_2 := hX_ HB hx285_2
   replace hx285_3 := hX_ HB hx285_3
   replace hx285_4 := hX_ HB hx285_4
   have HR285_2 := Aside0.mk hi285_2
   have HC285_2 := Aside0.mk hl285_2
   clear hi285_2 hl285_2
   have HR285_4 := Aside0.mk hi285_4
   have HC285_4 := Aside0.mk hl285_4
   clear hi285_4 hl285_4
   replace p285 := eq_true p285
   replace q285 := eq_true q285
   refine start_ (n := 23) (S := fun w' => w'.cell? (ad283.add ((ji7)).toNat) = some (.string (rdOf ByteArray.empty t280 (ji7))) ∧ w'.cell? (ad283.add (x4_1).toNat) = some (.string (rdOf ByteArray.empty t280 x4_1)) ∧ w'.cell? (ad285.add ((x4_1).toNat * 5)) = some (.string ((rd_T54 l0 x4_1).f0)) ∧ w'.cell? ⟨(ad285.add ((x4_1).toNat * 5)).block, (ad285.add ((x4_1).toNat * 5)).off + 1, none⟩ = some (.string ((rd_T54 l0 x4_1).f1)) ∧ w'.cell? ⟨(ad285.add ((x4_1).toNat * 5)).block, (ad285.add ((x4_1).toNat * 5)).off + 2, none⟩ = some (.slice A285_2 ((rd_T54 l0 x4_1).f2).length c285_2) ∧ w'.cell? ⟨(ad285.add ((x4_1).toNat * 5)).block, (ad285.add ((x4_1).toNat * 5)).off + 3, none⟩ = some (.string ((rd_T54 l0 x4_1).f3)) ∧ w'.cell? ⟨(ad285.add ((x4_1).toNat * 5)).block, (ad285.add ((x4_1).toNat * 5)).off + 4, none⟩ = some (.slice A285_4 ((rd_T54 l0 x4_1).f4).length c285_4)) (ds := []) (bs_ 23 0) (by kernel_rfl) rfl (by kernel_rfl) ⟨hx283_0, hx284_0, ((HB.out.cell (World.block_lt_of_cell? w _ hw285_0)).trans hw285_0), ((HB.out.cell (World.block_lt_of_cell? w _ hw285_1)).trans hw285_1), ((HB.out.cell (World.block_lt_of_cell? w _ hw285_2)).trans hw285_2), ((HB.out.cell (World.block_lt_of_cell? w _ hw285_3)).trans hw285_3), ((HB.out.cell (World.block_lt_of_cell? w _ hw285_4)).trans hw285_4)⟩ (fun hHeld => ?_); refine with_tabW spec_StoreOk.tab7 spec_StoreOk.bits7 (fun HT_ HW_ => ?_)
   generalize wr.drew = w18 at HO_3 HB HR285_2 HR285_4 hx283_0 hx284_0 hx285_0 hx285_1 hx285_2 hx285_3 hx285_4 hHeld ⊢
   refine pS_ 0 ?_
   refine pS_ 1 ?_
   refine pS_ 2 ?_
   refine pS_ 3 ?_
   refine pS_ 4 ?_
   refine pS_ 5 ?_
   refine pS_ 6 ?_
   refine pS_ 8 ?_
   refine pS_ 9 ?_
   refine pS_ 10 ?_
   refine t7_ 7 hHeld ?_
   refine t7_ 11 hHeld ?_
   refine pS_ 12 ?_
   refine pS_ 13 ?_
   refine pS_ 14 ?_
   refine pS_ 15 ?_
   refine pS_ 16 ?_
   refine pS_ 17 ?_
   refine pS_ 19 ?_
   refine t7_ 18 hHeld ?_
   refine oS_ 20 (fun K hK => ?_)
   refine gS_ Tryz.func31 #[.agg #[.string ((rd_T54 l0 x4_1).f0), .string ((rd_T54 l0 x4_1).f1), .slice A285_2 ((rd_T54 l0 x4_1).f2).length c285_2, .string ((rd_T54 l0 x4_1).f3), .slice A285_4 ((rd_T54 l0 x4_1).f4).length c285_4], .slice (some ad283) t280.length co19] ?_
   with_reducible refine (spec_l12ItemOk.calls k1 ((rd_T54 l0 x4_1).f0) ((rd_T54 l0 x4_1).f1) _ _ ((rd_T54 l0 x4_1).f2) ((rd_T54 l0 x4_1).f3) _ _ ((rd_T54 l0 x4_1).f4) _ _ t280 false _ ?side1 ?side2 ?side3 ?side4 ?side5 ?side6 A13.out).mono ?_
   (case side1 => exact cS_ HR285_2 HB)
   (case side2 => exact HC285_2.out)
   (case side3 => exact cS_ HR285_4 HB)
   (case side4 => exact HC285_4.out)
   (case side5 => repeat (first | exact (Kd.R_reads' HO_3.out).2.2 | (with_reducible refine Kd.C_alloc ?_ _) | (with_reducible refine Kd.C_drewN ?_ _) | (with_reducible refine Kd.C_drew ?_)))
   (case side6 => exact (Kd.R_reads' HO_3.out).2.1)
   rintro e w20 ⟨rfl, hb⟩
   have HS0_ := (hb.cell (World.block_lt_of_cell? _ _ (hHeld.1))).trans (hHeld.1)
   have HS1_ := (hb.cell (World.block_lt_of_cell? _ _ (hHeld.2.1))).trans (hHeld.2.1)
   refine ⟨_, rfl, ?_⟩
   have n0_ := Aside0.mk (Kd.R_below (by (with_reducible repeat (first | apply Kd.R_alloc | apply Kd.R_drewN | apply Kd.R_drew)); exact HO_3.out) hb)
   have n1_ := Aside0.mk (below_step (bw_ HB) hb)
   clear HO_3
   clear HB
   have HO_3 := n0_
   have HB := n1_
   clear n0_ n1_
   (try clear hb)
   (try clear hb2)
   (try clear hk)
   (try clear hi)
   refine hK.out _ _ ⟨HS0_, HS1_, ((HB.out.cell (World.block_lt_of_cell? w _ hw285_0)).trans hw285_0), ((HB.out.cell (World.block_lt_of_cell? w _ hw285_1)).trans hw285_1), ((HB.out.cell (World.block_lt_of_cell? w _ hw285_2)).trans hw285_2), ((HB.out.cell (World.block_lt_of_cell? w _ hw285_3)).trans hw285_3), ((HB.out.cell (World.block_lt_of_cell? w _ hw285_4)).trans hw285_4)⟩ (fun hHeld => ?_)
   clear hK K
   refine nS_ 36 ?_
   refine pS_ 21 ?_
   refine pS_ 22 ?_
   refine done_ (done_of HT_.out (by kernel_rfl)) ?_
   try go_wp2
   go_ret
   exact ⟨by first | rfl | (simp [errW_none, errW_some] <;> rfl) | (simp only [← hji7]; first | rfl | (simp [errW_none, errW_some] <;> rfl)) | (simp [*, errW_none, errW_some] <;> rfl), bw_ HB⟩}}
   {
   rw [if_neg c12] at H
   have c12b0 : (Op.bytesLess ((rdOf ByteArray.empty t280 (ji7)).toList) ((rdOf ByteArray.empty t280 x4_1).toList)) = false := by simpa using c12
   clear c12
   obtain rfl := Option.some.inj H
   try go_wp2
   have n0_ := Aside0.mk (Kd.R_drew HO_3.out)
   have n1_ := Aside0.mk (below_drew1 HB.out)
   clear HO_3
   clear HB
   have HO_3 := n0_
   have HB := n1_
   clear n0_ n1_
   obtain ⟨Ao22, co22, eo22⟩ := Kd.R_slice HO_3.out
   (first | subst eo22 | (injection eo22 with f1_ f2_ f3_; have f4_ := f1_.symm; have f5_ := f3_.symm; clear f1_ f2_ f3_; subst f4_; subst f5_))
   have p283 : 0 ≤ ((ji7) : Int) := dA_
   have q283 : (ji7) < (t280.length : Int) := dA_
   obtain ⟨ad283, e283, hx283_0⟩ := Kd.at_string (Kd.R_reads' HO_3.out).2.2 (ji7) p283 q283
   cases e283
   replace p283 := eq_true p283
   replace q283 := eq_true q283
   have p284 : 0 ≤ (x4_1 : Int) := dA_
   have q284 : x4_1 < (t280.length : Int) := dA_
   obtain ⟨ad284, e284, hx284_0⟩ := Kd.at_string (Kd.R_reads' HO_3.out).2.2 x4_1 p284 q284
   obtain rfl : ad283 = ad284 := (by injection e284)
   replace p284 := eq_true p284
   replace q284 := eq_true q284
   refine start_ (n := 23) (S := fun w' => w'.cell? (ad283.add ((ji7)).toNat) = some (.string (rdOf ByteArray.empty t280 (ji7))) ∧ w'.cell? (ad283.add (x4_1).toNat) = some (.string (rdOf ByteArray.empty t280 x4_1))) (ds := []) (bs_ 23 0) (by kernel_rfl) rfl (by kernel_rfl) ⟨hx283_0, hx284_0⟩ (fun hHeld => ?_); refine with_tabW spec_StoreOk.tab7 spec_StoreOk.bits7 (fun HT_ HW_ => ?_)
   generalize wr.drew = w21 at HO_3 HB hx283_0 hx284_0 hHeld ⊢
   refine pS_ 0 ?_
   refine pS_ 1 ?_
   refine pS_ 2 ?_
   refine pS_ 3 ?_
   refine pS_ 4 ?_
   refine pS_ 5 ?_
   refine pS_ 6 ?_
   refine pS_ 8 ?_
   refine pS_ 9 ?_
   refine pS_ 10 ?_
   refine t2_ 7 hHeld ?_
   refine t2_ 11 hHeld ?_
   refine pS_ 12 ?_
   refine pS_ 13 ?_
   refine pS_ 14 ?_
   refine pU_ 15 ?_
   refine pU_ 16 ?_
   refine pU_ 17 ?_
   refine pU_ 18 ?_
   refine pU_ 19 ?_
   refine pU_ 20 ?_
   refine pU_ 21 ?_
   refine pS_ 22 ?_
   refine done_ (done_of HT_.out (by kernel_rfl)) ?_
   try go_wp2
   go_ret
   exact ⟨by first | rfl | (simp [errW_none, errW_some] <;> rfl) | (simp only [← hji7]; first | rfl | (simp [errW_none, errW_some] <;> rfl)) | (simp [*, errW_none, errW_some] <;> rfl), bw_ HB⟩}}
   {
   rw [if_neg c11] at H
   exact absurd H (by simp)}}
   {
   rw [if_neg c10] at H
   exact absurd H (by simp)}}
   {
   rw [if_neg c9] at H
   exact absurd H (by simp)}}
   {
   rw [if_neg c8] at H
   exact absurd H (by simp)}}
   {
   rw [if_neg c6] at H
   have c6b0 : decide (0 < x4_1) = false := decide_eq_false c6
   clear c6
   by_cases c23 : 0 ≤ x4_1
   {
   rw [if_pos c23] at H
   have c23b0 : decide (0 ≤ x4_1) = true := decide_eq_true c23
   clear c23
   replace H := Option.bind_eq_some_iff.mp H
   obtain ⟨t288, A240, H⟩ := H
   have A24 := Aside0.mk A240
   clear A240
   by_cases c25 : t288 = true
   {
   subst c25
   rw [if_pos rfl] at H
   have H' := Aside0.mk H
   clear H
   try go_wp2
   have n0_ := Aside0.mk (Kd.R_drew HO_3.out)
   have n1_ := Aside0.mk (below_drew1 HB.out)
   clear HO_3
   clear HB
   have HO_3 := n0_
   have HB := n1_
   clear n0_ n1_
   have p287 : 0 ≤ (x4_1 : Int) := dA_
   have q287 : x4_1 < (l0.length : Int) := dA_
   obtain ⟨ad287, A287_2, c287_2, A287_4, c287_4, e287, hx287_0, hx287_1, hx287_2, hx287_3, hx287_4, hl287_2, hi287_2, hl287_4, hi287_4⟩ := at_T54 HR0.out x4_1 p287 q287
   have hw287_4 := hx287_4
   have hw287_3 := hx287_3
   have hw287_2 := hx287_2
   have hw287_1 := hx287_1
   have hw287_0 := hx287_0
   cases e287
   replace hx287_0 := hX_ HB hx287_0
   replace hx287_1 := hX_ HB hx287_1
   replace hx287_2 := hX_ HB hx287_2
   replace hx287_3 := hX_ HB hx287_3
   replace hx287_4 := hX_ HB hx287_4
   have HR287_2 := Aside0.mk hi287_2
   have HC287_2 := Aside0.mk hl287_2
   clear hi287_2 hl287_2
   have HR287_4 := Aside0.mk hi287_4
   have HC287_4 := Aside0.mk hl287_4
   clear hi287_4 hl287_4
   replace p287 := eq_true p287
   replace q287 := eq_true q287
   obtain ⟨Ao27, co27, eo27⟩ := Kd.R_slice HO_3.out
   (first | subst eo27 | (injection eo27 with f1_ f2_ f3_; have f4_ := f1_.symm; have f5_ := f3_.symm; clear f1_ f2_ f3_; subst f4_; subst f5_))
   refine start_ (n := 23) (S := fun w' => w'.cell? (ad287.add ((x4_1).toNat * 5)) = some (.string ((rd_T54 l0 x4_1).f0)) ∧ w'.cell? ⟨(ad287.add ((x4_1).toNat * 5)).block, (ad287.add ((x4_1).toNat * 5)).off + 1, none⟩ = some (.string ((rd_T54 l0 x4_1).f1)) ∧ w'.cell? ⟨(ad287.add ((x4_1).toNat * 5)).block, (ad287.add ((x4_1).toNat * 5)).off + 2, none⟩ = some (.slice A287_2 ((rd_T54 l0 x4_1).f2).length c287_2) ∧ w'.cell? ⟨(ad287.add ((x4_1).toNat * 5)).block, (ad287.add ((x4_1).toNat * 5)).off + 3, none⟩ = some (.string ((rd_T54 l0 x4_1).f3)) ∧ w'.cell? ⟨(ad287.add ((x4_1).toNat * 5)).block, (ad287.add ((x4_1).toNat * 5)).off + 4, none⟩ = some (.slice A287_4 ((rd_T54 l0 x4_1).f4).length c287_4)) (ds := []) (bs_ 23 0) (by kernel_rfl) rfl (by kernel_rfl) ⟨((HB.out.cell (World.block_lt_of_cell? w _ hw287_0)).trans hw287_0), ((HB.out.cell (World.block_lt_of_cell? w _ hw287_1)).trans hw287_1), ((HB.out.cell (World.block_lt_of_cell? w _ hw287_2)).trans hw287_2), ((HB.out.cell (World.block_lt_of_cell? w _ hw287_3)).trans hw287_3), ((HB.out.cell (World.block_lt_of_cell? w _ hw287_4)).trans hw287_4)⟩ (fun hHeld => ?_); refine with_tabW spec_StoreOk.tab7 spec_StoreOk.bits7 (fun HT_ HW_ => ?_)
   generalize wr.drew = w26 at HO_3 HB HR287_2 HR287_4 hx287_0 hx287_1 hx287_2 hx287_3 hx287_4 hHeld ⊢
   refine pS_ 0 ?_
   refine pS_ 1 ?_
   refine pS_ 2 ?_
   refine pU_ 3 ?_
   refine pU_ 4 ?_
   refine pU_ 5 ?_
   refine pU_ 6 ?_
   refine pU_ 7 ?_
   refine pU_ 8 ?_
   refine pU_ 9 ?_
   refine pU_ 10 ?_
   refine pU_ 11 ?_
   refine pU_ 12 ?_
   refine pS_ 13 ?_
   refine pS_ 14 ?_
   refine pS_ 15 ?_
   refine pS_ 16 ?_
   refine pS_ 17 ?_
   refine pS_ 19 ?_
   refine t5_ 18 hHeld ?_
   refine oS_ 20 (fun K hK => ?_)
   refine gS_ Tryz.func31 #[.agg #[.string ((rd_T54 l0 x4_1).f0), .string ((rd_T54 l0 x4_1).f1), .slice A287_2 ((rd_T54 l0 x4_1).f2).length c287_2, .string ((rd_T54 l0 x4_1).f3), .slice A287_4 ((rd_T54 l0 x4_1).f4).length c287_4], .slice Ao27 t280.length co27] ?_
   with_reducible refine (spec_l12ItemOk.calls k1 ((rd_T54 l0 x4_1).f0) ((rd_T54 l0 x4_1).f1) _ _ ((rd_T54 l0 x4_1).f2) ((rd_T54 l0 x4_1).f3) _ _ ((rd_T54 l0 x4_1).f4) _ _ t280 true _ ?side1 ?side2 ?side3 ?side4 ?side5 ?side6 A24.out).mono ?_
   (case side1 => exact cS_ HR287_2 HB)
   (case side2 => exact HC287_2.out)
   (case side3 => exact cS_ HR287_4 HB)
   (case side4 => exact HC287_4.out)
   (case side5 => repeat (first | exact (Kd.R_reads' HO_3.out).2.2 | (with_reducible refine Kd.C_alloc ?_ _) | (with_reducible refine Kd.C_drewN ?_ _) | (with_reducible refine Kd.C_drew ?_)))
   (case side6 => exact (Kd.R_reads' HO_3.out).2.1)
   rintro e w28 ⟨rfl, hb⟩
   refine ⟨_, rfl, ?_⟩
   have n0_ := Aside0.mk (Kd.R_below (by (with_reducible repeat (first | apply Kd.R_alloc | apply Kd.R_drewN | apply Kd.R_drew)); exact HO_3.out) hb)
   have n1_ := Aside0.mk (below_step (bw_ HB) hb)
   clear HO_3
   clear HB
   have HO_3 := n0_
   have HB := n1_
   clear n0_ n1_
   (try clear hb)
   (try clear hb2)
   (try clear hk)
   (try clear hi)
   refine hK.out _ _ ⟨((HB.out.cell (World.block_lt_of_cell? w _ hw287_0)).trans hw287_0), ((HB.out.cell (World.block_lt_of_cell? w _ hw287_1)).trans hw287_1), ((HB.out.cell (World.block_lt_of_cell? w _ hw287_2)).trans hw287_2), ((HB.out.cell (World.block_lt_of_cell? w _ hw287_3)).trans hw287_3), ((HB.out.cell (World.block_lt_of_cell? w _ hw287_4)).trans hw287_4)⟩ (fun hHeld => ?_)
   clear hK K
   refine nS_ 36 ?_
   refine pS_ 21 ?_
   refine pS_ 22 ?_
   refine done_ (done_of HT_.out (by kernel_rfl)) ?_
   try go_wp2
   go_roundg k1
   case measure => have := HK1.out; omega
   case rel => exact ⟨(wrap64 (x4_1 + 1)), (by first | rfl | (simp; done) | (simp [*]; done)), H', ⟨by have := HK1.out; omega⟩, ⟨by (with_reducible repeat (first | apply Kd.R_alloc | apply Kd.R_drewN | apply Kd.R_drew)); exact HO_3.out⟩, ⟨bw_ HB⟩⟩}
   {
   replace c25 := Bool.eq_false_iff.mpr c25
   subst c25
   rw [if_neg (show ¬ (false = true) by decide)] at H
   obtain rfl := Option.some.inj H
   try go_wp2
   have n0_ := Aside0.mk (Kd.R_drew HO_3.out)
   have n1_ := Aside0.mk (below_drew1 HB.out)
   clear HO_3
   clear HB
   have HO_3 := n0_
   have HB := n1_
   clear n0_ n1_
   have p287 : 0 ≤ (x4_1 : Int) := dA_
   have q287 : x4_1 < (l0.length : Int) := dA_
   obtain ⟨ad287, A287_2, c287_2, A287_4, c287_4, e287, hx287_0, hx287_1, hx287_2, hx287_3, hx287_4, hl287_2, hi287_2, hl287_4, hi287_4⟩ := at_T54 HR0.out x4_1 p287 q287
   have hw287_4 := hx287_4
   have hw287_3 := hx287_3
   have hw287_2 := hx287_2
   have hw287_1 := hx287_1
   have hw287_0 := hx287_0
   cases e287
   replace hx287_0 := hX_ HB hx287_0
   replace hx287_1 := hX_ HB hx287_1
   replace hx287_2 := hX_ HB hx287_2
   replace hx287_3 := hX_ HB hx287_3
   replace hx287_4 := hX_ HB hx287_4
   have HR287_2 := Aside0.mk hi287_2
   have HC287_2 := Aside0.mk hl287_2
   clear hi287_2 hl287_2
   have HR287_4 := Aside0.mk hi287_4
   have HC287_4 := Aside0.mk hl287_4
   clear hi287_4 hl287_4
   replace p287 := eq_true p287
   replace q287 := eq_true q287
   obtain ⟨Ao30, co30, eo30⟩ := Kd.R_slice HO_3.out
   (first | subst eo30 | (injection eo30 with f1_ f2_ f3_; have f4_ := f1_.symm; have f5_ := f3_.symm; clear f1_ f2_ f3_; subst f4_; subst f5_))
   refine start_ (n := 23) (S := fun w' => w'.cell? (ad287.add ((x4_1).toNat * 5)) = some (.string ((rd_T54 l0 x4_1).f0)) ∧ w'.cell? ⟨(ad287.add ((x4_1).toNat * 5)).block, (ad287.add ((x4_1).toNat * 5)).off + 1, none⟩ = some (.string ((rd_T54 l0 x4_1).f1)) ∧ w'.cell? ⟨(ad287.add ((x4_1).toNat * 5)).block, (ad287.add ((x4_1).toNat * 5)).off + 2, none⟩ = some (.slice A287_2 ((rd_T54 l0 x4_1).f2).length c287_2) ∧ w'.cell? ⟨(ad287.add ((x4_1).toNat * 5)).block, (ad287.add ((x4_1).toNat * 5)).off + 3, none⟩ = some (.string ((rd_T54 l0 x4_1).f3)) ∧ w'.cell? ⟨(ad287.add ((x4_1).toNat * 5)).block, (ad287.add ((x4_1).toNat * 5)).off + 4, none⟩ = some (.slice A287_4 ((rd_T54 l0 x4_1).f4).length c287_4)) (ds := []) (bs_ 23 0) (by kernel_rfl) rfl (by kernel_rfl) ⟨((HB.out.cell (World.block_lt_of_cell? w _ hw287_0)).trans hw287_0), ((HB.out.cell (World.block_lt_of_cell? w _ hw287_1)).trans hw287_1), ((HB.out.cell (World.block_lt_of_cell? w _ hw287_2)).trans hw287_2), ((HB.out.cell (World.block_lt_of_cell? w _ hw287_3)).trans hw287_3), ((HB.out.cell (World.block_lt_of_cell? w _ hw287_4)).trans hw287_4)⟩ (fun hHeld => ?_); refine with_tabW spec_StoreOk.tab7 spec_StoreOk.bits7 (fun HT_ HW_ => ?_)
   generalize wr.drew = w29 at HO_3 HB HR287_2 HR287_4 hx287_0 hx287_1 hx287_2 hx287_3 hx287_4 hHeld ⊢
   refine pS_ 0 ?_
   refine pS_ 1 ?_
   refine pS_ 2 ?_
   refine pU_ 3 ?_
   refine pU_ 4 ?_
   refine pU_ 5 ?_
   refine pU_ 6 ?_
   refine pU_ 7 ?_
   refine pU_ 8 ?_
   refine pU_ 9 ?_
   refine pU_ 10 ?_
   refine pU_ 11 ?_
   refine pU_ 12 ?_
   refine pS_ 13 ?_
   refine pS_ 14 ?_
   refine pS_ 15 ?_
   refine pS_ 16 ?_
   refine pS_ 17 ?_
   refine pS_ 19 ?_
   refine t5_ 18 hHeld ?_
   refine oS_ 20 (fun K hK => ?_)
   refine gS_ Tryz.func31 #[.agg #[.string ((rd_T54 l0 x4_1).f0), .string ((rd_T54 l0 x4_1).f1), .slice A287_2 ((rd_T54 l0 x4_1).f2).length c287_2, .string ((rd_T54 l0 x4_1).f3), .slice A287_4 ((rd_T54 l0 x4_1).f4).length c287_4], .slice Ao30 t280.length co30] ?_
   with_reducible refine (spec_l12ItemOk.calls k1 ((rd_T54 l0 x4_1).f0) ((rd_T54 l0 x4_1).f1) _ _ ((rd_T54 l0 x4_1).f2) ((rd_T54 l0 x4_1).f3) _ _ ((rd_T54 l0 x4_1).f4) _ _ t280 false _ ?side1 ?side2 ?side3 ?side4 ?side5 ?side6 A24.out).mono ?_
   (case side1 => exact cS_ HR287_2 HB)
   (case side2 => exact HC287_2.out)
   (case side3 => exact cS_ HR287_4 HB)
   (case side4 => exact HC287_4.out)
   (case side5 => repeat (first | exact (Kd.R_reads' HO_3.out).2.2 | (with_reducible refine Kd.C_alloc ?_ _) | (with_reducible refine Kd.C_drewN ?_ _) | (with_reducible refine Kd.C_drew ?_)))
   (case side6 => exact (Kd.R_reads' HO_3.out).2.1)
   rintro e w31 ⟨rfl, hb⟩
   refine ⟨_, rfl, ?_⟩
   have n0_ := Aside0.mk (Kd.R_below (by (with_reducible repeat (first | apply Kd.R_alloc | apply Kd.R_drewN | apply Kd.R_drew)); exact HO_3.out) hb)
   have n1_ := Aside0.mk (below_step (bw_ HB) hb)
   clear HO_3
   clear HB
   have HO_3 := n0_
   have HB := n1_
   clear n0_ n1_
   (try clear hb)
   (try clear hb2)
   (try clear hk)
   (try clear hi)
   refine hK.out _ _ ⟨((HB.out.cell (World.block_lt_of_cell? w _ hw287_0)).trans hw287_0), ((HB.out.cell (World.block_lt_of_cell? w _ hw287_1)).trans hw287_1), ((HB.out.cell (World.block_lt_of_cell? w _ hw287_2)).trans hw287_2), ((HB.out.cell (World.block_lt_of_cell? w _ hw287_3)).trans hw287_3), ((HB.out.cell (World.block_lt_of_cell? w _ hw287_4)).trans hw287_4)⟩ (fun hHeld => ?_)
   clear hK K
   refine nS_ 36 ?_
   refine pS_ 21 ?_
   refine pS_ 22 ?_
   refine done_ (done_of HT_.out (by kernel_rfl)) ?_
   try go_wp2
   go_ret
   exact ⟨eR_, bw_ HB⟩}}
   {
   rw [if_neg c23] at H
   exact absurd H (by simp)}}}
   {
   rw [if_neg c5] at H
   have c5b0 : decide (x4_1 < (l0.length : Int)) = false := decide_eq_false c5
   (try (have c5b0' := c5b0; simp only [hl287_4] at c5b0'))
   clear c5
   obtain rfl := Option.some.inj H
   go_wp2
   go_ret
   exact ⟨eR_, bw_ HB⟩
}}
end Go.Proofs.YtkhhkpjeafknpaaGreatDoor.P
end

section
namespace Go.Proofs.YtkhhkpjeafknpaaGreatDoor.P
open Go.RowKit Go.Proofs.YtkhhkpjeafknpaaGreatDoorW.PrintWords Go.Proofs.YtkhhkpjeafknpaaGreatDoorW.PrintLast Go.Proofs.YtkhhkpjeafknpaaGreatDoorW.PrintMore Go.Proofs.YtkhhkpjeafknpaaGreatDoorM
attribute [local go_sem] max2_int min2_int max_two min_two max_three min_three max_four min_four
set_option linter.unusedVariables false
set_option linter.unusedSimpArgs false
def laws_eqItem.f (k : Nat) (a0_0 : ByteArray) (a0_1 : ByteArray) (l0_2 : List ByteArray) (a0_3 : ByteArray) (l0_4 : List (S70)) (a1_0 : ByteArray) (a1_1 : ByteArray) (l1_2 : List ByteArray) (a1_3 : ByteArray) (l1_4 : List (S70)) : Option (Bool) := if a0_0.toList = a1_0.toList then (if a0_1.toList = a1_1.toList then ((laws_eqStringS.f k l0_2 l1_2).bind fun t460 => (if t460 = true then (if a0_3.toList = a1_3.toList then ((laws_eqEntryS.f k l0_4 l1_4).bind fun t461 => (if t461 = true then (some true) else (some false))) else (some false)) else (some false))) else (some false)) else (some false)
set_option maxHeartbeats 8000000 in
set_option maxRecDepth 100000 in
theorem laws_eqItem.calls (k : Nat) (a0_0 : ByteArray) (a0_1 : ByteArray) (A0_2 : Option Addr) (c0_2 : Nat) (l0_2 : List ByteArray) (a0_3 : ByteArray) (A0_4 : Option Addr) (c0_4 : Nat) (l0_4 : List (S70)) (a1_0 : ByteArray) (a1_1 : ByteArray) (A1_2 : Option Addr) (c1_2 : Nat) (l1_2 : List ByteArray) (a1_3 : ByteArray) (A1_4 : Option Addr) (c1_4 : Nat) (l1_4 : List (S70)) (r : Bool) (w : World) (hr0_2 : Kd.C Kd.string w A0_2 l0_2.length l0_2) (hc0_2 : l0_2.length ≤ c0_2) (hr0_4 : Kd.C k70 w A0_4 l0_4.length l0_4) (hc0_4 : l0_4.length ≤ c0_4) (hr1_2 : Kd.C Kd.string w A1_2 l1_2.length l1_2) (hc1_2 : l1_2.length ≤ c1_2) (hr1_4 : Kd.C k70 w A1_4 l1_4.length l1_4) (hc1_4 : l1_4.length ≤ c1_4) (h : laws_eqItem.f k a0_0 a0_1 l0_2 a0_3 l0_4 a1_0 a1_1 l1_2 a1_3 l1_4 = some r) :
 Calls Tryz.prog 36 #[.agg #[.string a0_0, .string a0_1, .slice A0_2 l0_2.length c0_2, .string a0_3, .slice A0_4 l0_4.length c0_4], .agg #[.string a1_0, .string a1_1, .slice A1_2 l1_2.length c1_2, .string a1_3, .slice A1_4 l1_4.length c1_4]] w fun e w' => e = .returned (.bool r) ∧ Below w.heap.size w w' := by
 have hu54 := Tryz.underlying54
 have HR0_2 := Aside0.mk hr0_2
 have HC0_2 := Aside0.mk hc0_2
 clear hr0_2 hc0_2
 have HR0_4 := Aside0.mk hr0_4
 have HC0_4 := Aside0.mk hc0_4
 clear hr0_4 hc0_4
 have HR1_2 := Aside0.mk hr1_2
 have HC1_2 := Aside0.mk hc1_2
 clear hr1_2 hc1_2
 have HR1_4 := Aside0.mk hr1_4
 have HC1_4 := Aside0.mk hc1_4
 clear hr1_4 hc1_4
 have HB := Aside0.mk (Below.refl w.heap.size w)
 have H : (if a0_0.toList = a1_0.toList then (if a0_1.toList = a1_1.toList then ((laws_eqStringS.f k l0_2 l1_2).bind fun t460 => (if t460 = true then (if a0_3.toList = a1_3.toList then ((laws_eqEntryS.f k l0_4 l1_4).bind fun t461 => (if t461 = true then (some true) else (some false))) else (some false)) else (some false))) else (some false)) else (some false)) = some r := h
 clear h
 by_cases c3 : a0_0.toList = a1_0.toList
 {
 rw [if_pos c3] at H
 have c3b0 : (a0_0.toList == a1_0.toList) = true := beq_iff_eq.mpr c3
 have c3b1 : (a0_0.toList != a1_0.toList) = false := bne_eq_false_iff_eq.mpr c3
 clear c3
 by_cases c4 : a0_1.toList = a1_1.toList
 {
 rw [if_pos c4] at H
 have c4b0 : (a0_1.toList == a1_1.toList) = true := beq_iff_eq.mpr c4
 have c4b1 : (a0_1.toList != a1_1.toList) = false := bne_eq_false_iff_eq.mpr c4
 clear c4
 replace H := Option.bind_eq_some_iff.mp H
 obtain ⟨t460, A50, H⟩ := H
 have A5 := Aside0.mk A50
 clear A50
 by_cases c6 : t460 = true
 {
 subst c6
 rw [if_pos rfl] at H
 by_cases c7 : a0_3.toList = a1_3.toList
 {
 rw [if_pos c7] at H
 have c7b0 : (a0_3.toList == a1_3.toList) = true := beq_iff_eq.mpr c7
 have c7b1 : (a0_3.toList != a1_3.toList) = false := bne_eq_false_iff_eq.mpr c7
 clear c7
 replace H := Option.bind_eq_some_iff.mp H
 obtain ⟨t461, A80, H⟩ := H
 have A8 := Aside0.mk A80
 clear A80
 by_cases c9 : t461 = true
 {
 subst c9
 rw [if_pos rfl] at H
 obtain rfl := Option.some.inj H
 go_enter Tryz.func36, Tryz.ntmps36
 go_wp2_with (first | ((with_reducible refine gate_dst (N := 2) rfl ?_); refine box_event ?hg (N := 2) ?hd (cs := #[.string a0_0, .string a0_1, .slice A0_2 l0_2.length c0_2, .string a0_3, .slice A0_4 l0_4.length c0_4]) (t := 54) ?hr ?_; (case hd => rfl); (case hg => rfl); (case hr => first | (go_simp; done) | (go_simp; rfl)); intro gb458 hg w10 hbox hb; have n0_ := Aside0.mk (below_step (bw_ HB) hb); have n1_ := Aside0.mk (hbox); have n2_ := Aside0.mk ((by rw [hg]; exact (below_size (bw_ HB)) : w.heap.size ≤ gb458)); have n3_ := Aside0.mk ((by rw [hg]; exact (below_size (bw_ HB)) : w.heap.size ≤ gb458)); clear HB; have HB := n0_; have BK458 := n1_; have GW458 := n2_; have GE458 := n3_; clear n0_ n1_ n2_ n3_; clear hb hbox hg) | ((with_reducible refine gate_dst (N := 3) rfl ?_); refine box_event ?hg (N := 3) ?hd (cs := #[.string a1_0, .string a1_1, .slice A1_2 l1_2.length c1_2, .string a1_3, .slice A1_4 l1_4.length c1_4]) (t := 54) ?hr ?_; (case hd => rfl); (case hg => rfl); (case hr => first | (go_simp; done) | (go_simp; rfl)); intro gb459 hg w11 hbox hb; have n0_ := Aside0.mk (blk_below (g := gb458) (o := .cells #[.string a0_0, .string a0_1, .slice A0_2 l0_2.length c0_2, .string a0_3, .slice A0_4 l0_4.length c0_4] 54 (0, 0)) (by (with_reducible repeat (first | refine blk_drewN ?_ _ | refine blk_drew ?_ | refine blk_alloc ?_ _)); exact BK458.out) hb); have n1_ := Aside0.mk (below_step (bw1_ HB GE458) hb); have n2_ := Aside0.mk (hbox); have n3_ := Aside0.mk ((by rw [hg]; exact (below_size (bw1_ HB GE458)) : w.heap.size ≤ gb459)); have n4_ := Aside0.mk ((by rw [hg]; exact (below_size (bw1_ HB GE458)) : w.heap.size ≤ gb459)); have n5_ := Aside0.mk ((by rw [hg]; exact Nat.ne_of_lt (blk_lt (g := gb458) (o := .cells #[.string a0_0, .string a0_1, .slice A0_2 l0_2.length c0_2, .string a0_3, .slice A0_4 l0_4.length c0_4] 54 (0, 0)) (by (with_reducible repeat (first | refine blk_drewN ?_ _ | refine blk_drew ?_ | refine blk_alloc ?_ _)); exact BK458.out)) : gb458 ≠ gb459)); have n6_ := Aside0.mk ((by rw [hg]; exact Nat.ne_of_gt (blk_lt (g := gb458) (o := .cells #[.string a0_0, .string a0_1, .slice A0_2 l0_2.length c0_2, .string a0_3, .slice A0_4 l0_4.length c0_4] 54 (0, 0)) (by (with_reducible repeat (first | refine blk_drewN ?_ _ | refine blk_drew ?_ | refine blk_alloc ?_ _)); exact BK458.out)) : gb459 ≠ gb458)); clear BK458; clear HB; have BK458 := n0_; have HB := n1_; have BK459 := n2_; have GW459 := n3_; have GE459 := n4_; have NB458_459 := n5_; have NB459_458 := n6_; clear n0_ n1_ n2_ n3_ n4_ n5_ n6_; clear hb hbox hg; have hnb12 := NB458_459.out; have hnc12 := NB459_458.out; have hcz13_0 : w11.cell? ⟨gb458, 0, none⟩ = some (.string a0_0) := (blk_cell BK458.out 0).trans rfl; have hcz13_1 : w11.cell? ⟨gb458, 1, none⟩ = some (.string a0_1) := (blk_cell BK458.out 1).trans rfl; have hcz13_2 : w11.cell? ⟨gb458, 2, none⟩ = some (.slice A0_2 l0_2.length c0_2) := (blk_cell BK458.out 2).trans rfl; have hcz13_3 : w11.cell? ⟨gb458, 3, none⟩ = some (.string a0_3) := (blk_cell BK458.out 3).trans rfl; have hcz13_4 : w11.cell? ⟨gb458, 4, none⟩ = some (.slice A0_4 l0_4.length c0_4) := (blk_cell BK458.out 4).trans rfl; have hfz13_0 := blk_frozen BK458.out 0; have hfz13_1 := blk_frozen BK458.out 1; have hfz13_2 := blk_frozen BK458.out 2; have hfz13_3 := blk_frozen BK458.out 3; have hfz13_4 := blk_frozen BK458.out 4; have hcz14_0 : w11.cell? ⟨gb459, 0, none⟩ = some (.string a1_0) := (blk_cell BK459.out 0).trans rfl; have hcz14_1 : w11.cell? ⟨gb459, 1, none⟩ = some (.string a1_1) := (blk_cell BK459.out 1).trans rfl; have hcz14_2 : w11.cell? ⟨gb459, 2, none⟩ = some (.slice A1_2 l1_2.length c1_2) := (blk_cell BK459.out 2).trans rfl; have hcz14_3 : w11.cell? ⟨gb459, 3, none⟩ = some (.string a1_3) := (blk_cell BK459.out 3).trans rfl; have hcz14_4 : w11.cell? ⟨gb459, 4, none⟩ = some (.slice A1_4 l1_4.length c1_4) := (blk_cell BK459.out 4).trans rfl; have hfz14_0 := blk_frozen BK459.out 0; have hfz14_1 := blk_frozen BK459.out 1; have hfz14_2 := blk_frozen BK459.out 2; have hfz14_3 := blk_frozen BK459.out 3; have hfz14_4 := blk_frozen BK459.out 4) | ((with_reducible refine gate_callee (f := 14) rfl ?_); refine gL_ (some 19) Tryz.func14 #[.slice A0_2 l0_2.length c0_2, .slice A1_2 l1_2.length c1_2] ?_; (with_reducible refine (laws_eqStringS.calls k _ _ l0_2 _ _ l1_2 true _ ?side1 ?side2 ?side3 ?side4 A5.out).mono ?_); (case side1 => exact cS_ HR0_2 HB); (case side2 => exact HC0_2.out); (case side3 => exact cS_ HR1_2 HB); (case side4 => exact HC1_2.out); rintro e w' ⟨rfl, ⟨nd, rfl⟩⟩; refine ⟨_, rfl, ?_⟩) | ((with_reducible refine gate_callee (f := 22) rfl ?_); refine gL_ (some 30) Tryz.func22 #[.slice A0_4 l0_4.length c0_4, .slice A1_4 l1_4.length c1_4] ?_; (with_reducible refine (laws_eqEntryS.calls k _ _ l0_4 _ _ l1_4 true _ ?side1 ?side2 ?side3 ?side4 A8.out).mono ?_); (case side1 => repeat (first | exact (Kd.C_below HR0_4.out (bw2_ HB GE458 GE459)) | (with_reducible refine Kd.C_alloc ?_ _) | (with_reducible refine Kd.C_drewN ?_ _) | (with_reducible refine Kd.C_drew ?_))); (case side2 => exact HC0_4.out); (case side3 => repeat (first | exact (Kd.C_below HR1_4.out (bw2_ HB GE458 GE459)) | (with_reducible refine Kd.C_alloc ?_ _) | (with_reducible refine Kd.C_drewN ?_ _) | (with_reducible refine Kd.C_drew ?_))); (case side4 => exact HC1_4.out); rintro e w15 ⟨rfl, hb⟩; refine ⟨_, rfl, ?_⟩; have n0_ := Aside0.mk (blk_below (g := gb458) (o := .cells #[.string a0_0, .string a0_1, .slice A0_2 l0_2.length c0_2, .string a0_3, .slice A0_4 l0_4.length c0_4] 54 (0, 0)) (by (with_reducible repeat (first | refine blk_drewN ?_ _ | refine blk_drew ?_ | refine blk_alloc ?_ _)); exact BK458.out) hb); have n1_ := Aside0.mk (blk_below (g := gb459) (o := .cells #[.string a1_0, .string a1_1, .slice A1_2 l1_2.length c1_2, .string a1_3, .slice A1_4 l1_4.length c1_4] 54 (0, 0)) (by (with_reducible repeat (first | refine blk_drewN ?_ _ | refine blk_drew ?_ | refine blk_alloc ?_ _)); exact BK459.out) hb); have n2_ := Aside0.mk (below_step (bw2_ HB GE458 GE459) hb); clear BK458; clear BK459; clear HB; have BK458 := n0_; have BK459 := n1_; have HB := n2_; clear n0_ n1_ n2_; (try clear hb); (try clear hb2); (try clear hk); (try clear hi)))
 go_ret
 exact ⟨eR_, bw2_ HB GE458 GE459⟩}
 {
 replace c9 := Bool.eq_false_iff.mpr c9
 subst c9
 rw [if_neg (show ¬ (false = true) by decide)] at H
 obtain rfl := Option.some.inj H
 go_enter Tryz.func36, Tryz.ntmps36
 go_wp2_with (first | ((with_reducible refine gate_dst (N := 2) rfl ?_); refine box_event ?hg (N := 2) ?hd (cs := #[.string a0_0, .string a0_1, .slice A0_2 l0_2.length c0_2, .string a0_3, .slice A0_4 l0_4.length c0_4]) (t := 54) ?hr ?_; (case hd => rfl); (case hg => rfl); (case hr => first | (go_simp; done) | (go_simp; rfl)); intro gb458 hg w16 hbox hb; have n0_ := Aside0.mk (below_step (bw_ HB) hb); have n1_ := Aside0.mk (hbox); have n2_ := Aside0.mk ((by rw [hg]; exact (below_size (bw_ HB)) : w.heap.size ≤ gb458)); have n3_ := Aside0.mk ((by rw [hg]; exact (below_size (bw_ HB)) : w.heap.size ≤ gb458)); clear HB; have HB := n0_; have BK458 := n1_; have GW458 := n2_; have GE458 := n3_; clear n0_ n1_ n2_ n3_; clear hb hbox hg) | ((with_reducible refine gate_dst (N := 3) rfl ?_); refine box_event ?hg (N := 3) ?hd (cs := #[.string a1_0, .string a1_1, .slice A1_2 l1_2.length c1_2, .string a1_3, .slice A1_4 l1_4.length c1_4]) (t := 54) ?hr ?_; (case hd => rfl); (case hg => rfl); (case hr => first | (go_simp; done) | (go_simp; rfl)); intro gb459 hg w17 hbox hb; have n0_ := Aside0.mk (blk_below (g := gb458) (o := .cells #[.string a0_0, .string a0_1, .slice A0_2 l0_2.length c0_2, .string a0_3, .slice A0_4 l0_4.length c0_4] 54 (0, 0)) (by (with_reducible repeat (first | refine blk_drewN ?_ _ | refine blk_drew ?_ | refine blk_alloc ?_ _)); exact BK458.out) hb); have n1_ := Aside0.mk (below_step (bw1_ HB GE458) hb); have n2_ := Aside0.mk (hbox); have n3_ := Aside0.mk ((by rw [hg]; exact (below_size (bw1_ HB GE458)) : w.heap.size ≤ gb459)); have n4_ := Aside0.mk ((by rw [hg]; exact (below_size (bw1_ HB GE458)) : w.heap.size ≤ gb459)); have n5_ := Aside0.mk ((by rw [hg]; exact Nat.ne_of_lt (blk_lt (g := gb458) (o := .cells #[.string a0_0, .string a0_1, .slice A0_2 l0_2.length c0_2, .string a0_3, .slice A0_4 l0_4.length c0_4] 54 (0, 0)) (by (with_reducible repeat (first | refine blk_drewN ?_ _ | refine blk_drew ?_ | refine blk_alloc ?_ _)); exact BK458.out)) : gb458 ≠ gb459)); have n6_ := Aside0.mk ((by rw [hg]; exact Nat.ne_of_gt (blk_lt (g := gb458) (o := .cells #[.string a0_0, .string a0_1, .slice A0_2 l0_2.length c0_2, .string a0_3, .slice A0_4 l0_4.length c0_4] 54 (0, 0)) (by (with_reducible repeat (first | refine blk_drewN ?_ _ | refine blk_drew ?_ | refine blk_alloc ?_ _)); exact BK458.out)) : gb459 ≠ gb458)); clear BK458; clear HB; have BK458 := n0_; have HB := n1_; have BK459 := n2_; have GW459 := n3_; have GE459 := n4_; have NB458_459 := n5_; have NB459_458 := n6_; clear n0_ n1_ n2_ n3_ n4_ n5_ n6_; clear hb hbox hg; have hnb18 := NB458_459.out; have hnc18 := NB459_458.out; have hcz19_0 : w17.cell? ⟨gb458, 0, none⟩ = some (.string a0_0) := (blk_cell BK458.out 0).trans rfl; have hcz19_1 : w17.cell? ⟨gb458, 1, none⟩ = some (.string a0_1) := (blk_cell BK458.out 1).trans rfl; have hcz19_2 : w17.cell? ⟨gb458, 2, none⟩ = some (.slice A0_2 l0_2.length c0_2) := (blk_cell BK458.out 2).trans rfl; have hcz19_3 : w17.cell? ⟨gb458, 3, none⟩ = some (.string a0_3) := (blk_cell BK458.out 3).trans rfl; have hcz19_4 : w17.cell? ⟨gb458, 4, none⟩ = some (.slice A0_4 l0_4.length c0_4) := (blk_cell BK458.out 4).trans rfl; have hfz19_0 := blk_frozen BK458.out 0; have hfz19_1 := blk_frozen BK458.out 1; have hfz19_2 := blk_frozen BK458.out 2; have hfz19_3 := blk_frozen BK458.out 3; have hfz19_4 := blk_frozen BK458.out 4; have hcz20_0 : w17.cell? ⟨gb459, 0, none⟩ = some (.string a1_0) := (blk_cell BK459.out 0).trans rfl; have hcz20_1 : w17.cell? ⟨gb459, 1, none⟩ = some (.string a1_1) := (blk_cell BK459.out 1).trans rfl; have hcz20_2 : w17.cell? ⟨gb459, 2, none⟩ = some (.slice A1_2 l1_2.length c1_2) := (blk_cell BK459.out 2).trans rfl; have hcz20_3 : w17.cell? ⟨gb459, 3, none⟩ = some (.string a1_3) := (blk_cell BK459.out 3).trans rfl; have hcz20_4 : w17.cell? ⟨gb459, 4, none⟩ = some (.slice A1_4 l1_4.length c1_4) := (blk_cell BK459.out 4).trans rfl; have hfz20_0 := blk_frozen BK459.out 0; have hfz20_1 := blk_frozen BK459.out 1; have hfz20_2 := blk_frozen BK459.out 2; have hfz20_3 := blk_frozen BK459.out 3; have hfz20_4 := blk_frozen BK459.out 4) | ((with_reducible refine gate_callee (f := 14) rfl ?_); refine gL_ (some 19) Tryz.func14 #[.slice A0_2 l0_2.length c0_2, .slice A1_2 l1_2.length c1_2] ?_; (with_reducible refine (laws_eqStringS.calls k _ _ l0_2 _ _ l1_2 true _ ?side1 ?side2 ?side3 ?side4 A5.out).mono ?_); (case side1 => exact cS_ HR0_2 HB); (case side2 => exact HC0_2.out); (case side3 => exact cS_ HR1_2 HB); (case side4 => exact HC1_2.out); rintro e w' ⟨rfl, ⟨nd, rfl⟩⟩; refine ⟨_, rfl, ?_⟩) | ((with_reducible refine gate_callee (f := 22) rfl ?_); refine gL_ (some 30) Tryz.func22 #[.slice A0_4 l0_4.length c0_4, .slice A1_4 l1_4.length c1_4] ?_; (with_reducible refine (laws_eqEntryS.calls k _ _ l0_4 _ _ l1_4 false _ ?side1 ?side2 ?side3 ?side4 A8.out).mono ?_); (case side1 => repeat (first | exact (Kd.C_below HR0_4.out (bw2_ HB GE458 GE459)) | (with_reducible refine Kd.C_alloc ?_ _) | (with_reducible refine Kd.C_drewN ?_ _) | (with_reducible refine Kd.C_drew ?_))); (case side2 => exact HC0_4.out); (case side3 => repeat (first | exact (Kd.C_below HR1_4.out (bw2_ HB GE458 GE459)) | (with_reducible refine Kd.C_alloc ?_ _) | (with_reducible refine Kd.C_drewN ?_ _) | (with_reducible refine Kd.C_drew ?_))); (case side4 => exact HC1_4.out); rintro e w21 ⟨rfl, hb⟩; refine ⟨_, rfl, ?_⟩; have n0_ := Aside0.mk (blk_below (g := gb458) (o := .cells #[.string a0_0, .string a0_1, .slice A0_2 l0_2.length c0_2, .string a0_3, .slice A0_4 l0_4.length c0_4] 54 (0, 0)) (by (with_reducible repeat (first | refine blk_drewN ?_ _ | refine blk_drew ?_ | refine blk_alloc ?_ _)); exact BK458.out) hb); have n1_ := Aside0.mk (blk_below (g := gb459) (o := .cells #[.string a1_0, .string a1_1, .slice A1_2 l1_2.length c1_2, .string a1_3, .slice A1_4 l1_4.length c1_4] 54 (0, 0)) (by (with_reducible repeat (first | refine blk_drewN ?_ _ | refine blk_drew ?_ | refine blk_alloc ?_ _)); exact BK459.out) hb); have n2_ := Aside0.mk (below_step (bw2_ HB GE458 GE459) hb); clear BK458; clear BK459; clear HB; have BK458 := n0_; have BK459 := n1_; have HB := n2_; clear n0_ n1_ n2_; (try clear hb); (try clear hb2); (try clear hk); (try clear hi)))
 go_ret
 exact ⟨eR_, bw2_ HB GE458 GE459⟩}}
 {
 rw [if_neg c7] at H
 have c7b0 : (a0_3.toList == a1_3.toList) = false := beq_eq_false_iff_ne.mpr c7
 have c7b1 : (a0_3.toList != a1_3.toList) = true := bne_iff_ne.mpr c7
 obtain rfl := Option.some.inj H
 go_enter Tryz.func36, Tryz.ntmps36
 go_wp2_with (first | ((with_reducible refine gate_dst (N := 2) rfl ?_); refine box_event ?hg (N := 2) ?hd (cs := #[.string a0_0, .string a0_1, .slice A0_2 l0_2.length c0_2, .string a0_3, .slice A0_4 l0_4.length c0_4]) (t := 54) ?hr ?_; (case hd => rfl); (case hg => rfl); (case hr => first | (go_simp; done) | (go_simp; rfl)); intro gb458 hg w22 hbox hb; have n0_ := Aside0.mk (below_step (bw_ HB) hb); have n1_ := Aside0.mk (hbox); have n2_ := Aside0.mk ((by rw [hg]; exact (below_size (bw_ HB)) : w.heap.size ≤ gb458)); have n3_ := Aside0.mk ((by rw [hg]; exact (below_size (bw_ HB)) : w.heap.size ≤ gb458)); clear HB; have HB := n0_; have BK458 := n1_; have GW458 := n2_; have GE458 := n3_; clear n0_ n1_ n2_ n3_; clear hb hbox hg) | ((with_reducible refine gate_dst (N := 3) rfl ?_); refine box_event ?hg (N := 3) ?hd (cs := #[.string a1_0, .string a1_1, .slice A1_2 l1_2.length c1_2, .string a1_3, .slice A1_4 l1_4.length c1_4]) (t := 54) ?hr ?_; (case hd => rfl); (case hg => rfl); (case hr => first | (go_simp; done) | (go_simp; rfl)); intro gb459 hg w23 hbox hb; have n0_ := Aside0.mk (blk_below (g := gb458) (o := .cells #[.string a0_0, .string a0_1, .slice A0_2 l0_2.length c0_2, .string a0_3, .slice A0_4 l0_4.length c0_4] 54 (0, 0)) (by (with_reducible repeat (first | refine blk_drewN ?_ _ | refine blk_drew ?_ | refine blk_alloc ?_ _)); exact BK458.out) hb); have n1_ := Aside0.mk (below_step (bw1_ HB GE458) hb); have n2_ := Aside0.mk (hbox); have n3_ := Aside0.mk ((by rw [hg]; exact (below_size (bw1_ HB GE458)) : w.heap.size ≤ gb459)); have n4_ := Aside0.mk ((by rw [hg]; exact (below_size (bw1_ HB GE458)) : w.heap.size ≤ gb459)); have n5_ := Aside0.mk ((by rw [hg]; exact Nat.ne_of_lt (blk_lt (g := gb458) (o := .cells #[.string a0_0, .string a0_1, .slice A0_2 l0_2.length c0_2, .string a0_3, .slice A0_4 l0_4.length c0_4] 54 (0, 0)) (by (with_reducible repeat (first | refine blk_drewN ?_ _ | refine blk_drew ?_ | refine blk_alloc ?_ _)); exact BK458.out)) : gb458 ≠ gb459)); have n6_ := Aside0.mk ((by rw [hg]; exact Nat.ne_of_gt (blk_lt (g := gb458) (o := .cells #[.string a0_0, .string a0_1, .slice A0_2 l0_2.length c0_2, .string a0_3, .slice A0_4 l0_4.length c0_4] 54 (0, 0)) (by (with_reducible repeat (first | refine blk_drewN ?_ _ | refine blk_drew ?_ | refine blk_alloc ?_ _)); exact BK458.out)) : gb459 ≠ gb458)); clear BK458; clear HB; have BK458 := n0_; have HB := n1_; have BK459 := n2_; have GW459 := n3_; have GE459 := n4_; have NB458_459 := n5_; have NB459_458 := n6_; clear n0_ n1_ n2_ n3_ n4_ n5_ n6_; clear hb hbox hg; have hnb24 := NB458_459.out; have hnc24 := NB459_458.out; have hcz25_0 : w23.cell? ⟨gb458, 0, none⟩ = some (.string a0_0) := (blk_cell BK458.out 0).trans rfl; have hcz25_1 : w23.cell? ⟨gb458, 1, none⟩ = some (.string a0_1) := (blk_cell BK458.out 1).trans rfl; have hcz25_2 : w23.cell? ⟨gb458, 2, none⟩ = some (.slice A0_2 l0_2.length c0_2) := (blk_cell BK458.out 2).trans rfl; have hcz25_3 : w23.cell? ⟨gb458, 3, none⟩ = some (.string a0_3) := (blk_cell BK458.out 3).trans rfl; have hcz25_4 : w23.cell? ⟨gb458, 4, none⟩ = some (.slice A0_4 l0_4.length c0_4) := (blk_cell BK458.out 4).trans rfl; have hfz25_0 := blk_frozen BK458.out 0; have hfz25_1 := blk_frozen BK458.out 1; have hfz25_2 := blk_frozen BK458.out 2; have hfz25_3 := blk_frozen BK458.out 3; have hfz25_4 := blk_frozen BK458.out 4; have hcz26_0 : w23.cell? ⟨gb459, 0, none⟩ = some (.string a1_0) := (blk_cell BK459.out 0).trans rfl; have hcz26_1 : w23.cell? ⟨gb459, 1, none⟩ = some (.string a1_1) := (blk_cell BK459.out 1).trans rfl; have hcz26_2 : w23.cell? ⟨gb459, 2, none⟩ = some (.slice A1_2 l1_2.length c1_2) := (blk_cell BK459.out 2).trans rfl; have hcz26_3 : w23.cell? ⟨gb459, 3, none⟩ = some (.string a1_3) := (blk_cell BK459.out 3).trans rfl; have hcz26_4 : w23.cell? ⟨gb459, 4, none⟩ = some (.slice A1_4 l1_4.length c1_4) := (blk_cell BK459.out 4).trans rfl; have hfz26_0 := blk_frozen BK459.out 0; have hfz26_1 := blk_frozen BK459.out 1; have hfz26_2 := blk_frozen BK459.out 2; have hfz26_3 := blk_frozen BK459.out 3; have hfz26_4 := blk_frozen BK459.out 4) | ((with_reducible refine gate_callee (f := 14) rfl ?_); refine gL_ (some 19) Tryz.func14 #[.slice A0_2 l0_2.length c0_2, .slice A1_2 l1_2.length c1_2] ?_; (with_reducible refine (laws_eqStringS.calls k _ _ l0_2 _ _ l1_2 true _ ?side1 ?side2 ?side3 ?side4 A5.out).mono ?_); (case side1 => exact cS_ HR0_2 HB); (case side2 => exact HC0_2.out); (case side3 => exact cS_ HR1_2 HB); (case side4 => exact HC1_2.out); rintro e w' ⟨rfl, ⟨nd, rfl⟩⟩; refine ⟨_, rfl, ?_⟩))
 go_ret
 exact ⟨eR_, bw2_ HB GE458 GE459⟩}}
 {
 replace c6 := Bool.eq_false_iff.mpr c6
 subst c6
 rw [if_neg (show ¬ (false = true) by decide)] at H
 obtain rfl := Option.some.inj H
 go_enter Tryz.func36, Tryz.ntmps36
 go_wp2_with (first | ((with_reducible refine gate_dst (N := 2) rfl ?_); refine box_event ?hg (N := 2) ?hd (cs := #[.string a0_0, .string a0_1, .slice A0_2 l0_2.length c0_2, .string a0_3, .slice A0_4 l0_4.length c0_4]) (t := 54) ?hr ?_; (case hd => rfl); (case hg => rfl); (case hr => first | (go_simp; done) | (go_simp; rfl)); intro gb458 hg w27 hbox hb; have n0_ := Aside0.mk (below_step (bw_ HB) hb); have n1_ := Aside0.mk (hbox); have n2_ := Aside0.mk ((by rw [hg]; exact (below_size (bw_ HB)) : w.heap.size ≤ gb458)); have n3_ := Aside0.mk ((by rw [hg]; exact (below_size (bw_ HB)) : w.heap.size ≤ gb458)); clear HB; have HB := n0_; have BK458 := n1_; have GW458 := n2_; have GE458 := n3_; clear n0_ n1_ n2_ n3_; clear hb hbox hg) | ((with_reducible refine gate_dst (N := 3) rfl ?_); refine box_event ?hg (N := 3) ?hd (cs := #[.string a1_0, .string a1_1, .slice A1_2 l1_2.length c1_2, .string a1_3, .slice A1_4 l1_4.length c1_4]) (t := 54) ?hr ?_; (case hd => rfl); (case hg => rfl); (case hr => first | (go_simp; done) | (go_simp; rfl)); intro gb459 hg w28 hbox hb; have n0_ := Aside0.mk (blk_below (g := gb458) (o := .cells #[.string a0_0, .string a0_1, .slice A0_2 l0_2.length c0_2, .string a0_3, .slice A0_4 l0_4.length c0_4] 54 (0, 0)) (by (with_reducible repeat (first | refine blk_drewN ?_ _ | refine blk_drew ?_ | refine blk_alloc ?_ _)); exact BK458.out) hb); have n1_ := Aside0.mk (below_step (bw1_ HB GE458) hb); have n2_ := Aside0.mk (hbox); have n3_ := Aside0.mk ((by rw [hg]; exact (below_size (bw1_ HB GE458)) : w.heap.size ≤ gb459)); have n4_ := Aside0.mk ((by rw [hg]; exact (below_size (bw1_ HB GE458)) : w.heap.size ≤ gb459)); have n5_ := Aside0.mk ((by rw [hg]; exact Nat.ne_of_lt (blk_lt (g := gb458) (o := .cells #[.string a0_0, .string a0_1, .slice A0_2 l0_2.length c0_2, .string a0_3, .slice A0_4 l0_4.length c0_4] 54 (0, 0)) (by (with_reducible repeat (first | refine blk_drewN ?_ _ | refine blk_drew ?_ | refine blk_alloc ?_ _)); exact BK458.out)) : gb458 ≠ gb459)); have n6_ := Aside0.mk ((by rw [hg]; exact Nat.ne_of_gt (blk_lt (g := gb458) (o := .cells #[.string a0_0, .string a0_1, .slice A0_2 l0_2.length c0_2, .string a0_3, .slice A0_4 l0_4.length c0_4] 54 (0, 0)) (by (with_reducible repeat (first | refine blk_drewN ?_ _ | refine blk_drew ?_ | refine blk_alloc ?_ _)); exact BK458.out)) : gb459 ≠ gb458)); clear BK458; clear HB; have BK458 := n0_; have HB := n1_; have BK459 := n2_; have GW459 := n3_; have GE459 := n4_; have NB458_459 := n5_; have NB459_458 := n6_; clear n0_ n1_ n2_ n3_ n4_ n5_ n6_; clear hb hbox hg; have hnb29 := NB458_459.out; have hnc29 := NB459_458.out; have hcz30_0 : w28.cell? ⟨gb458, 0, none⟩ = some (.string a0_0) := (blk_cell BK458.out 0).trans rfl; have hcz30_1 : w28.cell? ⟨gb458, 1, none⟩ = some (.string a0_1) := (blk_cell BK458.out 1).trans rfl; have hcz30_2 : w28.cell? ⟨gb458, 2, none⟩ = some (.slice A0_2 l0_2.length c0_2) := (blk_cell BK458.out 2).trans rfl; have hcz30_3 : w28.cell? ⟨gb458, 3, none⟩ = some (.string a0_3) := (blk_cell BK458.out 3).trans rfl; have hcz30_4 : w28.cell? ⟨gb458, 4, none⟩ = some (.slice A0_4 l0_4.length c0_4) := (blk_cell BK458.out 4).trans rfl; have hfz30_0 := blk_frozen BK458.out 0; have hfz30_1 := blk_frozen BK458.out 1; have hfz30_2 := blk_frozen BK458.out 2; have hfz30_3 := blk_frozen BK458.out 3; have hfz30_4 := blk_frozen BK458.out 4; have hcz31_0 : w28.cell? ⟨gb459, 0, none⟩ = some (.string a1_0) := (blk_cell BK459.out 0).trans rfl; have hcz31_1 : w28.cell? ⟨gb459, 1, none⟩ = some (.string a1_1) := (blk_cell BK459.out 1).trans rfl; have hcz31_2 : w28.cell? ⟨gb459, 2, none⟩ = some (.slice A1_2 l1_2.length c1_2) := (blk_cell BK459.out 2).trans rfl; have hcz31_3 : w28.cell? ⟨gb459, 3, none⟩ = some (.string a1_3) := (blk_cell BK459.out 3).trans rfl; have hcz31_4 : w28.cell? ⟨gb459, 4, none⟩ = some (.slice A1_4 l1_4.length c1_4) := (blk_cell BK459.out 4).trans rfl; have hfz31_0 := blk_frozen BK459.out 0; have hfz31_1 := blk_frozen BK459.out 1; have hfz31_2 := blk_frozen BK459.out 2; have hfz31_3 := blk_frozen BK459.out 3; have hfz31_4 := blk_frozen BK459.out 4) | ((with_reducible refine gate_callee (f := 14) rfl ?_); refine gL_ (some 19) Tryz.func14 #[.slice A0_2 l0_2.length c0_2, .slice A1_2 l1_2.length c1_2] ?_; (with_reducible refine (laws_eqStringS.calls k _ _ l0_2 _ _ l1_2 false _ ?side1 ?side2 ?side3 ?side4 A5.out).mono ?_); (case side1 => exact cS_ HR0_2 HB); (case side2 => exact HC0_2.out); (case side3 => exact cS_ HR1_2 HB); (case side4 => exact HC1_2.out); rintro e w' ⟨rfl, ⟨nd, rfl⟩⟩; refine ⟨_, rfl, ?_⟩))
 go_ret
 exact ⟨eR_, bw2_ HB GE458 GE459⟩}}
 {
 rw [if_neg c4] at H
 have c4b0 : (a0_1.toList == a1_1.toList) = false := beq_eq_false_iff_ne.mpr c4
 have c4b1 : (a0_1.toList != a1_1.toList) = true := bne_iff_ne.mpr c4
 obtain rfl := Option.some.inj H
 go_enter Tryz.func36, Tryz.ntmps36
 go_wp2_with (first | ((with_reducible refine gate_dst (N := 2) rfl ?_); refine box_event ?hg (N := 2) ?hd (cs := #[.string a0_0, .string a0_1, .slice A0_2 l0_2.length c0_2, .string a0_3, .slice A0_4 l0_4.length c0_4]) (t := 54) ?hr ?_; (case hd => rfl); (case hg => rfl); (case hr => first | (go_simp; done) | (go_simp; rfl)); intro gb458 hg w32 hbox hb; have n0_ := Aside0.mk (below_step (bw_ HB) hb); have n1_ := Aside0.mk (hbox); have n2_ := Aside0.mk ((by rw [hg]; exact (below_size (bw_ HB)) : w.heap.size ≤ gb458)); have n3_ := Aside0.mk ((by rw [hg]; exact (below_size (bw_ HB)) : w.heap.size ≤ gb458)); clear HB; have HB := n0_; have BK458 := n1_; have GW458 := n2_; have GE458 := n3_; clear n0_ n1_ n2_ n3_; clear hb hbox hg) | ((with_reducible refine gate_dst (N := 3) rfl ?_); refine box_event ?hg (N := 3) ?hd (cs := #[.string a1_0, .string a1_1, .slice A1_2 l1_2.length c1_2, .string a1_3, .slice A1_4 l1_4.length c1_4]) (t := 54) ?hr ?_; (case hd => rfl); (case hg => rfl); (case hr => first | (go_simp; done) | (go_simp; rfl)); intro gb459 hg w33 hbox hb; have n0_ := Aside0.mk (blk_below (g := gb458) (o := .cells #[.string a0_0, .string a0_1, .slice A0_2 l0_2.length c0_2, .string a0_3, .slice A0_4 l0_4.length c0_4] 54 (0, 0)) (by (with_reducible repeat (first | refine blk_drewN ?_ _ | refine blk_drew ?_ | refine blk_alloc ?_ _)); exact BK458.out) hb); have n1_ := Aside0.mk (below_step (bw1_ HB GE458) hb); have n2_ := Aside0.mk (hbox); have n3_ := Aside0.mk ((by rw [hg]; exact (below_size (bw1_ HB GE458)) : w.heap.size ≤ gb459)); have n4_ := Aside0.mk ((by rw [hg]; exact (below_size (bw1_ HB GE458)) : w.heap.size ≤ gb459)); have n5_ := Aside0.mk ((by rw [hg]; exact Nat.ne_of_lt (blk_lt (g := gb458) (o := .cells #[.string a0_0, .string a0_1, .slice A0_2 l0_2.length c0_2, .string a0_3, .slice A0_4 l0_4.length c0_4] 54 (0, 0)) (by (with_reducible repeat (first | refine blk_drewN ?_ _ | refine blk_drew ?_ | refine blk_alloc ?_ _)); exact BK458.out)) : gb458 ≠ gb459)); have n6_ := Aside0.mk ((by rw [hg]; exact Nat.ne_of_gt (blk_lt (g := gb458) (o := .cells #[.string a0_0, .string a0_1, .slice A0_2 l0_2.length c0_2, .string a0_3, .slice A0_4 l0_4.length c0_4] 54 (0, 0)) (by (with_reducible repeat (first | refine blk_drewN ?_ _ | refine blk_drew ?_ | refine blk_alloc ?_ _)); exact BK458.out)) : gb459 ≠ gb458)); clear BK458; clear HB; have BK458 := n0_; have HB := n1_; have BK459 := n2_; have GW459 := n3_; have GE459 := n4_; have NB458_459 := n5_; have NB459_458 := n6_; clear n0_ n1_ n2_ n3_ n4_ n5_ n6_; clear hb hbox hg; have hnb34 := NB458_459.out; have hnc34 := NB459_458.out; have hcz35_0 : w33.cell? ⟨gb458, 0, none⟩ = some (.string a0_0) := (blk_cell BK458.out 0).trans rfl; have hcz35_1 : w33.cell? ⟨gb458, 1, none⟩ = some (.string a0_1) := (blk_cell BK458.out 1).trans rfl; have hcz35_2 : w33.cell? ⟨gb458, 2, none⟩ = some (.slice A0_2 l0_2.length c0_2) := (blk_cell BK458.out 2).trans rfl; have hcz35_3 : w33.cell? ⟨gb458, 3, none⟩ = some (.string a0_3) := (blk_cell BK458.out 3).trans rfl; have hcz35_4 : w33.cell? ⟨gb458, 4, none⟩ = some (.slice A0_4 l0_4.length c0_4) := (blk_cell BK458.out 4).trans rfl; have hfz35_0 := blk_frozen BK458.out 0; have hfz35_1 := blk_frozen BK458.out 1; have hfz35_2 := blk_frozen BK458.out 2; have hfz35_3 := blk_frozen BK458.out 3; have hfz35_4 := blk_frozen BK458.out 4; have hcz36_0 : w33.cell? ⟨gb459, 0, none⟩ = some (.string a1_0) := (blk_cell BK459.out 0).trans rfl; have hcz36_1 : w33.cell? ⟨gb459, 1, none⟩ = some (.string a1_1) := (blk_cell BK459.out 1).trans rfl; have hcz36_2 : w33.cell? ⟨gb459, 2, none⟩ = some (.slice A1_2 l1_2.length c1_2) := (blk_cell BK459.out 2).trans rfl; have hcz36_3 : w33.cell? ⟨gb459, 3, none⟩ = some (.string a1_3) := (blk_cell BK459.out 3).trans rfl; have hcz36_4 : w33.cell? ⟨gb459, 4, none⟩ = some (.slice A1_4 l1_4.length c1_4) := (blk_cell BK459.out 4).trans rfl; have hfz36_0 := blk_frozen BK459.out 0; have hfz36_1 := blk_frozen BK459.out 1; have hfz36_2 := blk_frozen BK459.out 2; have hfz36_3 := blk_frozen BK459.out 3; have hfz36_4 := blk_frozen BK459.out 4))
 go_ret
 exact ⟨eR_, bw2_ HB GE458 GE459⟩}}
 {
 rw [if_neg c3] at H
 have c3b0 : (a0_0.toList == a1_0.toList) = false := beq_eq_false_iff_ne.mpr c3
 have c3b1 : (a0_0.toList != a1_0.toList) = true := bne_iff_ne.mpr c3
 obtain rfl := Option.some.inj H
 go_enter Tryz.func36, Tryz.ntmps36
 go_wp2_with (first | ((with_reducible refine gate_dst (N := 2) rfl ?_); refine box_event ?hg (N := 2) ?hd (cs := #[.string a0_0, .string a0_1, .slice A0_2 l0_2.length c0_2, .string a0_3, .slice A0_4 l0_4.length c0_4]) (t := 54) ?hr ?_; (case hd => rfl); (case hg => rfl); (case hr => first | (go_simp; done) | (go_simp; rfl)); intro gb458 hg w37 hbox hb; have n0_ := Aside0.mk (below_step (bw_ HB) hb); have n1_ := Aside0.mk (hbox); have n2_ := Aside0.mk ((by rw [hg]; exact (below_size (bw_ HB)) : w.heap.size ≤ gb458)); have n3_ := Aside0.mk ((by rw [hg]; exact (below_size (bw_ HB)) : w.heap.size ≤ gb458)); clear HB; have HB := n0_; have BK458 := n1_; have GW458 := n2_; have GE458 := n3_; clear n0_ n1_ n2_ n3_; clear hb hbox hg) | ((with_reducible refine gate_dst (N := 3) rfl ?_); refine box_event ?hg (N := 3) ?hd (cs := #[.string a1_0, .string a1_1, .slice A1_2 l1_2.length c1_2, .string a1_3, .slice A1_4 l1_4.length c1_4]) (t := 54) ?hr ?_; (case hd => rfl); (case hg => rfl); (case hr => first | (go_simp; done) | (go_simp; rfl)); intro gb459 hg w38 hbox hb; have n0_ := Aside0.mk (blk_below (g := gb458) (o := .cells #[.string a0_0, .string a0_1, .slice A0_2 l0_2.length c0_2, .string a0_3, .slice A0_4 l0_4.length c0_4] 54 (0, 0)) (by (with_reducible repeat (first | refine blk_drewN ?_ _ | refine blk_drew ?_ | refine blk_alloc ?_ _)); exact BK458.out) hb); have n1_ := Aside0.mk (below_step (bw1_ HB GE458) hb); have n2_ := Aside0.mk (hbox); have n3_ := Aside0.mk ((by rw [hg]; exact (below_size (bw1_ HB GE458)) : w.heap.size ≤ gb459)); have n4_ := Aside0.mk ((by rw [hg]; exact (below_size (bw1_ HB GE458)) : w.heap.size ≤ gb459)); have n5_ := Aside0.mk ((by rw [hg]; exact Nat.ne_of_lt (blk_lt (g := gb458) (o := .cells #[.string a0_0, .string a0_1, .slice A0_2 l0_2.length c0_2, .string a0_3, .slice A0_4 l0_4.length c0_4] 54 (0, 0)) (by (with_reducible repeat (first | refine blk_drewN ?_ _ | refine blk_drew ?_ | refine blk_alloc ?_ _)); exact BK458.out)) : gb458 ≠ gb459)); have n6_ := Aside0.mk ((by rw [hg]; exact Nat.ne_of_gt (blk_lt (g := gb458) (o := .cells #[.string a0_0, .string a0_1, .slice A0_2 l0_2.length c0_2, .string a0_3, .slice A0_4 l0_4.length c0_4] 54 (0, 0)) (by (with_reducible repeat (first | refine blk_drewN ?_ _ | refine blk_drew ?_ | refine blk_alloc ?_ _)); exact BK458.out)) : gb459 ≠ gb458)); clear BK458; clear HB; have BK458 := n0_; have HB := n1_; have BK459 := n2_; have GW459 := n3_; have GE459 := n4_; have NB458_459 := n5_; have NB459_458 := n6_; clear n0_ n1_ n2_ n3_ n4_ n5_ n6_; clear hb hbox hg; have hnb39 := NB458_459.out; have hnc39 := NB459_458.out; have hcz40_0 : w38.cell? ⟨gb458, 0, none⟩ = some (.string a0_0) := (blk_cell BK458.out 0).trans rfl; have hcz40_1 : w38.cell? ⟨gb458, 1, none⟩ = some (.string a0_1) := (blk_cell BK458.out 1).trans rfl; have hcz40_2 : w38.cell? ⟨gb458, 2, none⟩ = some (.slice A0_2 l0_2.length c0_2) := (blk_cell BK458.out 2).trans rfl; have hcz40_3 : w38.cell? ⟨gb458, 3, none⟩ = some (.string a0_3) := (blk_cell BK458.out 3).trans rfl; have hcz40_4 : w38.cell? ⟨gb458, 4, none⟩ = some (.slice A0_4 l0_4.length c0_4) := (blk_cell BK458.out 4).trans rfl; have hfz40_0 := blk_frozen BK458.out 0; have hfz40_1 := blk_frozen BK458.out 1; have hfz40_2 := blk_frozen BK458.out 2; have hfz40_3 := blk_frozen BK458.out 3; have hfz40_4 := blk_frozen BK458.out 4; have hcz41_0 : w38.cell? ⟨gb459, 0, none⟩ = some (.string a1_0) := (blk_cell BK459.out 0).trans rfl; have hcz41_1 : w38.cell? ⟨gb459, 1, none⟩ = some (.string a1_1) := (blk_cell BK459.out 1).trans rfl; have hcz41_2 : w38.cell? ⟨gb459, 2, none⟩ = some (.slice A1_2 l1_2.length c1_2) := (blk_cell BK459.out 2).trans rfl; have hcz41_3 : w38.cell? ⟨gb459, 3, none⟩ = some (.string a1_3) := (blk_cell BK459.out 3).trans rfl; have hcz41_4 : w38.cell? ⟨gb459, 4, none⟩ = some (.slice A1_4 l1_4.length c1_4) := (blk_cell BK459.out 4).trans rfl; have hfz41_0 := blk_frozen BK459.out 0; have hfz41_1 := blk_frozen BK459.out 1; have hfz41_2 := blk_frozen BK459.out 2; have hfz41_3 := blk_frozen BK459.out 3; have hfz41_4 := blk_frozen BK459.out 4))
 go_ret
 exact ⟨eR_, bw2_ HB GE458 GE459⟩
}
end Go.Proofs.YtkhhkpjeafknpaaGreatDoor.P
end

section
namespace Go.Proofs.YtkhhkpjeafknpaaGreatDoor.P
open Go.RowKit Go.Proofs.YtkhhkpjeafknpaaGreatDoorW.PrintWords Go.Proofs.YtkhhkpjeafknpaaGreatDoorW.PrintLast Go.Proofs.YtkhhkpjeafknpaaGreatDoorW.PrintMore Go.Proofs.YtkhhkpjeafknpaaGreatDoorM
attribute [local go_sem] max2_int min2_int max_two min_two max_three min_three max_four min_four
set_option linter.unusedVariables false
set_option linter.unusedSimpArgs false
def laws_eqItemS.l0 : Nat → List (S54) → List (S54) → Int → Option (Bool)
 | 0, _, _, _ => none
 | k + 1, x0, x1, x5 => if x5 < (x0.length : Int) then (if 0 ≤ x5 then (if x5 < (x1.length : Int) then ((laws_eqItem.f k ((rd_T54 x0 x5).f0) ((rd_T54 x0 x5).f1) ((rd_T54 x0 x5).f2) ((rd_T54 x0 x5).f3) ((rd_T54 x0 x5).f4) ((rd_T54 x1 x5).f0) ((rd_T54 x1 x5).f1) ((rd_T54 x1 x5).f2) ((rd_T54 x1 x5).f3) ((rd_T54 x1 x5).f4)).bind fun t464 => (if t464 = true then (laws_eqItemS.l0 k x0 x1 (wrap64 (x5 + 1))) else (some false))) else (none)) else (none)) else (some true)
def laws_eqItemS.f (k : Nat) (l0 : List (S54)) (l1 : List (S54)) : Option (Bool) := if (l0.length : Int) = (l1.length : Int) then (laws_eqItemS.l0 k l0 l1 0) else (some false)
def laws_eqItemS.T6 : Bool × List (List Nat × List Nat) := (true, [([], []), ([], []), ([0, 1], [0, 1]), ([2], [2]), ([], []), ([], []), ([4, 5], [4, 5]), ([6], [6]), ([3, 7], [3, 7]), ([8], [8])])
def laws_eqItemS.B6 : List Nat := [0, 0, 3, 7, 0, 0, 48, 112, 255, 511]
theorem laws_eqItemS.tab6 : rtab .any (opsOf Tryz.f11 6) = laws_eqItemS.T6 := by kernel_rfl
theorem laws_eqItemS.bits6 : waitsOk laws_eqItemS.T6.2 laws_eqItemS.B6 = true := by kernel_rfl
set_option maxHeartbeats 8000000 in
set_option maxRecDepth 100000 in
theorem laws_eqItemS.calls (k : Nat) (A0 : Option Addr) (c0 : Nat) (l0 : List (S54)) (A1 : Option Addr) (c1 : Nat) (l1 : List (S54)) (r : Bool) (w : World) (hr0 : Kd.C k54 w A0 l0.length l0) (hc0 : l0.length ≤ c0) (hr1 : Kd.C k54 w A1 l1.length l1) (hc1 : l1.length ≤ c1) (h : laws_eqItemS.f k l0 l1 = some r) :
 Calls Tryz.prog 11 #[.slice A0 l0.length c0, .slice A1 l1.length c1] w fun e w' => e = .returned (.bool r) ∧ Below w.heap.size w w' := by
 have hu54 := Tryz.underlying54
 have HR0 := Aside0.mk hr0
 have HC0 := Aside0.mk hc0
 clear hr0 hc0
 have HR1 := Aside0.mk hr1
 have HC1 := Aside0.mk hc1
 clear hr1 hc1
 have HB := Aside0.mk (Below.refl w.heap.size w)
 have H : (if (l0.length : Int) = (l1.length : Int) then (laws_eqItemS.l0 k l0 l1 0) else (some false)) = some r := h
 clear h
 by_cases c3 : (l0.length : Int) = (l1.length : Int)
 {
 rw [if_pos c3] at H
 have c3b0 : ((l0.length : Int) == (l1.length : Int)) = true := beq_iff_eq.mpr c3
 have c3b1 : ((l0.length : Int) != (l1.length : Int)) = false := bne_eq_false_iff_eq.mpr c3
 have c3b2 : (l0.length == l1.length) = true := by first | simpa using c3 | (simp at c3 ⊢; omega)
 clear c3
 have H' := Aside0.mk H
 clear H
 go_enter Tryz.func11, Tryz.ntmps11
 go_wp2
 go_loopg [5] k (fun kq v5 w' => ∃ (x5_1 : Int), v5 = .int .i64 x5_1 ∧ Aside0 (laws_eqItemS.l0 kq l0 l1 x5_1 = some r) ∧ Aside0 (kq ≤ k) ∧ Aside0 (Below w.heap.size w w'))
 case atStart => exact ⟨(0), (by first | rfl | (simp; done) | (simp [*]; done)), H', ⟨Nat.le_refl _⟩, ⟨bw_ HB⟩⟩
 case round =>
  clear H'
  try clear c1
  try clear p2
  try clear c3
  try clear c3b0
  try clear c3b1
  try clear c3b2
  obtain ⟨x5_1, rfl, HA, HK1, HB⟩ := hrel
  cases gk with
  | zero => exact absurd HA.out (by simp [laws_eqItemS.l0])
  | succ k1 =>
   have H := HA.out
   clear HA
   simp only [laws_eqItemS.l0] at H
   by_cases c4 : x5_1 < (l0.length : Int)
   {
   rw [if_pos c4] at H
   have c4b0 : decide (x5_1 < (l0.length : Int)) = true := decide_eq_true c4
   clear c4
   by_cases c5 : 0 ≤ x5_1
   {
   rw [if_pos c5] at H
   have c5b0 : decide (0 ≤ x5_1) = true := decide_eq_true c5
   clear c5
   by_cases c6 : x5_1 < (l1.length : Int)
   {
   rw [if_pos c6] at H
   have c6b0 : decide (x5_1 < (l1.length : Int)) = true := decide_eq_true c6
   clear c6
   replace H := Option.bind_eq_some_iff.mp H
   obtain ⟨t464, A70, H⟩ := H
   have A7 := Aside0.mk A70
   clear A70
   by_cases c8 : t464 = true
   {
   subst c8
   rw [if_pos rfl] at H
   have H' := Aside0.mk H
   clear H
   try go_wp2
   have n0_ := Aside0.mk (below_drew1 HB.out)
   clear HB
   have HB := n0_
   clear n0_
   have p462 : 0 ≤ (x5_1 : Int) := dA_
   have q462 : x5_1 < (l0.length : Int) := dA_
   obtain ⟨ad462, A462_2, c462_2, A462_4, c462_4, e462, hx462_0, hx462_1, hx462_2, hx462_3, hx462_4, hl462_2, hi462_2, hl462_4, hi462_4⟩ := at_T54 HR0.out x5_1 p462 q462
   have hw462_4 := hx462_4
   have hw462_3 := hx462_3
   have hw462_2 := hx462_2
   have hw462_1 := hx462_1
   have hw462_0 := hx462_0
   cases e462
   replace hx462_0 := hX_ HB hx462_0
   replace hx462_1 := hX_ HB hx462_1
   replace hx462_2 := hX_ HB hx462_2
   replace hx462_3 := hX_ HB hx462_3
   replace hx462_4 := hX_ HB hx462_4
   have HR462_2 := Aside0.mk hi462_2
   have HC462_2 := Aside0.mk hl462_2
   clear hi462_2 hl462_2
   have HR462_4 := Aside0.mk hi462_4
   have HC462_4 := Aside0.mk hl462_4
   clear hi462_4 hl462_4
   replace p462 := eq_true p462
   replace q462 := eq_true q462
   have p463 : 0 ≤ (x5_1 : Int) := dA_
   have q463 : x5_1 < (l1.length : Int) := dA_
   obtain ⟨ad463, A463_2, c463_2, A463_4, c463_4, e463, hx463_0, hx463_1, hx463_2, hx463_3, hx463_4, hl463_2, hi463_2, hl463_4, hi463_4⟩ := at_T54 HR1.out x5_1 p463 q463
   have hw463_4 := hx463_4
   have hw463_3 := hx463_3
   have hw463_2 := hx463_2
   have hw463_1 := hx463_1
   have hw463_0 := hx463_0
   cases e463
   replace hx463_0 := hX_ HB hx463_0
   replace hx463_1 := hX_ HB hx463_1
   replace hx463_2 := hX_ HB hx463_2
   replace hx463_3 := hX_ HB hx463_3
   replace hx463_4 := hX_ HB hx463_4
   have HR463_2 := Aside0.mk hi463_2
   have HC463_2 := Aside0.mk hl463_2
   clear hi463_2 hl463_2
   have HR463_4 := Aside0.mk hi463_4
   have HC463_4 := Aside0.mk hl463_4
   clear hi463_4 hl463_4
   replace p463 := eq_true p463
   replace q463 := eq_true q463
   refine start_ (n := 10) (S := fun w' => w'.cell? (ad462.add ((x5_1).toNat * 5)) = some (.string ((rd_T54 l0 x5_1).f0)) ∧ w'.cell? ⟨(ad462.add ((x5_1).toNat * 5)).block, (ad462.add ((x5_1).toNat * 5)).off + 1, none⟩ = some (.string ((rd_T54 l0 x5_1).f1)) ∧ w'.cell? ⟨(ad462.add ((x5_1).toNat * 5)).block, (ad462.add ((x5_1).toNat * 5)).off + 2, none⟩ = some (.slice A462_2 ((rd_T54 l0 x5_1).f2).length c462_2) ∧ w'.cell? ⟨(ad462.add ((x5_1).toNat * 5)).block, (ad462.add ((x5_1).toNat * 5)).off + 3, none⟩ = some (.string ((rd_T54 l0 x5_1).f3)) ∧ w'.cell? ⟨(ad462.add ((x5_1).toNat * 5)).block, (ad462.add ((x5_1).toNat * 5)).off + 4, none⟩ = some (.slice A462_4 ((rd_T54 l0 x5_1).f4).length c462_4) ∧ w'.cell? (ad463.add ((x5_1).toNat * 5)) = some (.string ((rd_T54 l1 x5_1).f0)) ∧ w'.cell? ⟨(ad463.add ((x5_1).toNat * 5)).block, (ad463.add ((x5_1).toNat * 5)).off + 1, none⟩ = some (.string ((rd_T54 l1 x5_1).f1)) ∧ w'.cell? ⟨(ad463.add ((x5_1).toNat * 5)).block, (ad463.add ((x5_1).toNat * 5)).off + 2, none⟩ = some (.slice A463_2 ((rd_T54 l1 x5_1).f2).length c463_2) ∧ w'.cell? ⟨(ad463.add ((x5_1).toNat * 5)).block, (ad463.add ((x5_1).toNat * 5)).off + 3, none⟩ = some (.string ((rd_T54 l1 x5_1).f3)) ∧ w'.cell? ⟨(ad463.add ((x5_1).toNat * 5)).block, (ad463.add ((x5_1).toNat * 5)).off + 4, none⟩ = some (.slice A463_4 ((rd_T54 l1 x5_1).f4).length c463_4)) (ds := []) (bs_ 10 0) (by kernel_rfl) rfl (by kernel_rfl) ⟨((HB.out.cell (World.block_lt_of_cell? w _ hw462_0)).trans hw462_0), ((HB.out.cell (World.block_lt_of_cell? w _ hw462_1)).trans hw462_1), ((HB.out.cell (World.block_lt_of_cell? w _ hw462_2)).trans hw462_2), ((HB.out.cell (World.block_lt_of_cell? w _ hw462_3)).trans hw462_3), ((HB.out.cell (World.block_lt_of_cell? w _ hw462_4)).trans hw462_4), ((HB.out.cell (World.block_lt_of_cell? w _ hw463_0)).trans hw463_0), ((HB.out.cell (World.block_lt_of_cell? w _ hw463_1)).trans hw463_1), ((HB.out.cell (World.block_lt_of_cell? w _ hw463_2)).trans hw463_2), ((HB.out.cell (World.block_lt_of_cell? w _ hw463_3)).trans hw463_3), ((HB.out.cell (World.block_lt_of_cell? w _ hw463_4)).trans hw463_4)⟩ (fun hHeld => ?_); refine with_tabW laws_eqItemS.tab6 laws_eqItemS.bits6 (fun HT_ HW_ => ?_)
   generalize wr.drew = w9 at HB HR462_2 HR462_4 HR463_2 HR463_4 hx462_0 hx462_1 hx462_2 hx462_3 hx462_4 hx463_0 hx463_1 hx463_2 hx463_3 hx463_4 hHeld ⊢
   refine pS_ 0 ?_
   refine pS_ 1 ?_
   refine pS_ 2 ?_
   refine pS_ 4 ?_
   refine pS_ 5 ?_
   refine pS_ 6 ?_
   refine t10_ 3 hHeld ?_
   refine t10_ 7 hHeld ?_
   refine oS_ 8 (fun K hK => ?_)
   refine gS_ Tryz.func36 #[.agg #[.string ((rd_T54 l0 x5_1).f0), .string ((rd_T54 l0 x5_1).f1), .slice A462_2 ((rd_T54 l0 x5_1).f2).length c462_2, .string ((rd_T54 l0 x5_1).f3), .slice A462_4 ((rd_T54 l0 x5_1).f4).length c462_4], .agg #[.string ((rd_T54 l1 x5_1).f0), .string ((rd_T54 l1 x5_1).f1), .slice A463_2 ((rd_T54 l1 x5_1).f2).length c463_2, .string ((rd_T54 l1 x5_1).f3), .slice A463_4 ((rd_T54 l1 x5_1).f4).length c463_4]] ?_
   with_reducible refine (laws_eqItem.calls k1 ((rd_T54 l0 x5_1).f0) ((rd_T54 l0 x5_1).f1) _ _ ((rd_T54 l0 x5_1).f2) ((rd_T54 l0 x5_1).f3) _ _ ((rd_T54 l0 x5_1).f4) ((rd_T54 l1 x5_1).f0) ((rd_T54 l1 x5_1).f1) _ _ ((rd_T54 l1 x5_1).f2) ((rd_T54 l1 x5_1).f3) _ _ ((rd_T54 l1 x5_1).f4) true _ ?side1 ?side2 ?side3 ?side4 ?side5 ?side6 ?side7 ?side8 A7.out).mono ?_
   (case side1 => exact cS_ HR462_2 HB)
   (case side2 => exact HC462_2.out)
   (case side3 => exact cS_ HR462_4 HB)
   (case side4 => exact HC462_4.out)
   (case side5 => exact cS_ HR463_2 HB)
   (case side6 => exact HC463_2.out)
   (case side7 => exact cS_ HR463_4 HB)
   (case side8 => exact HC463_4.out)
   rintro e w10 ⟨rfl, hb⟩
   refine ⟨_, rfl, ?_⟩
   have n0_ := Aside0.mk (below_step (bw_ HB) hb)
   clear HB
   have HB := n0_
   clear n0_
   (try clear hb)
   (try clear hb2)
   (try clear hk)
   (try clear hi)
   refine hK.out _ _ ⟨((HB.out.cell (World.block_lt_of_cell? w _ hw462_0)).trans hw462_0), ((HB.out.cell (World.block_lt_of_cell? w _ hw462_1)).trans hw462_1), ((HB.out.cell (World.block_lt_of_cell? w _ hw462_2)).trans hw462_2), ((HB.out.cell (World.block_lt_of_cell? w _ hw462_3)).trans hw462_3), ((HB.out.cell (World.block_lt_of_cell? w _ hw462_4)).trans hw462_4), ((HB.out.cell (World.block_lt_of_cell? w _ hw463_0)).trans hw463_0), ((HB.out.cell (World.block_lt_of_cell? w _ hw463_1)).trans hw463_1), ((HB.out.cell (World.block_lt_of_cell? w _ hw463_2)).trans hw463_2), ((HB.out.cell (World.block_lt_of_cell? w _ hw463_3)).trans hw463_3), ((HB.out.cell (World.block_lt_of_cell? w _ hw463_4)).trans hw463_4)⟩ (fun hHeld => ?_)
   clear hK K
   refine nS_ 25 ?_
   refine pS_ 9 ?_
   refine done_ (done_of HT_.out (by kernel_rfl)) ?_
   try go_wp2
   go_roundg k1
   case measure => have := HK1.out; omega
   case rel => exact ⟨(wrap64 (x5_1 + 1)), (by first | rfl | (simp; done) | (simp [*]; done)), H', ⟨by have := HK1.out; omega⟩, ⟨bw_ HB⟩⟩}
   {
   replace c8 := Bool.eq_false_iff.mpr c8
   subst c8
   rw [if_neg (show ¬ (false = true) by decide)] at H
   obtain rfl := Option.some.inj H
   try go_wp2
   have n0_ := Aside0.mk (below_drew1 HB.out)
   clear HB
   have HB := n0_
   clear n0_
   have p462 : 0 ≤ (x5_1 : Int) := dA_
   have q462 : x5_1 < (l0.length : Int) := dA_
   obtain ⟨ad462, A462_2, c462_2, A462_4, c462_4, e462, hx462_0, hx462_1, hx462_2, hx462_3, hx462_4, hl462_2, hi462_2, hl462_4, hi462_4⟩ := at_T54 HR0.out x5_1 p462 q462
   have hw462_4 := hx462_4
   have hw462_3 := hx462_3
   have hw462_2 := hx462_2
   have hw462_1 := hx462_1
   have hw462_0 := hx462_0
   cases e462
   replace hx462_0 := hX_ HB hx462_0
   replace hx462_1 := hX_ HB hx462_1
   replace hx462_2 := hX_ HB hx462_2
   replace hx462_3 := hX_ HB hx462_3
   replace hx462_4 := hX_ HB hx462_4
   have HR462_2 := Aside0.mk hi462_2
   have HC462_2 := Aside0.mk hl462_2
   clear hi462_2 hl462_2
   have HR462_4 := Aside0.mk hi462_4
   have HC462_4 := Aside0.mk hl462_4
   clear hi462_4 hl462_4
   replace p462 := eq_true p462
   replace q462 := eq_true q462
   have p463 : 0 ≤ (x5_1 : Int) := dA_
   have q463 : x5_1 < (l1.length : Int) := dA_
   obtain ⟨ad463, A463_2, c463_2, A463_4, c463_4, e463, hx463_0, hx463_1, hx463_2, hx463_3, hx463_4, hl463_2, hi463_2, hl463_4, hi463_4⟩ := at_T54 HR1.out x5_1 p463 q463
   have hw463_4 := hx463_4
   have hw463_3 := hx463_3
   have hw463_2 := hx463_2
   have hw463_1 := hx463_1
   have hw463_0 := hx463_0
   cases e463
   replace hx463_0 := hX_ HB hx463_0
   replace hx463_1 := hX_ HB hx463_1
   replace hx463_2 := hX_ HB hx463_2
   replace hx463_3 := hX_ HB hx463_3
   replace hx463_4 := hX_ HB hx463_4
   have HR463_2 := Aside0.mk hi463_2
   have HC463_2 := Aside0.mk hl463_2
   clear hi463_2 hl463_2
   have HR463_4 := Aside0.mk hi463_4
   have HC463_4 := Aside0.mk hl463_4
   clear hi463_4 hl463_4
   replace p463 := eq_true p463
   replace q463 := eq_true q463
   refine start_ (n := 10) (S := fun w' => w'.cell? (ad462.add ((x5_1).toNat * 5)) = some (.string ((rd_T54 l0 x5_1).f0)) ∧ w'.cell? ⟨(ad462.add ((x5_1).toNat * 5)).block, (ad462.add ((x5_1).toNat * 5)).off + 1, none⟩ = some (.string ((rd_T54 l0 x5_1).f1)) ∧ w'.cell? ⟨(ad462.add ((x5_1).toNat * 5)).block, (ad462.add ((x5_1).toNat * 5)).off + 2, none⟩ = some (.slice A462_2 ((rd_T54 l0 x5_1).f2).length c462_2) ∧ w'.cell? ⟨(ad462.add ((x5_1).toNat * 5)).block, (ad462.add ((x5_1).toNat * 5)).off + 3, none⟩ = some (.string ((rd_T54 l0 x5_1).f3)) ∧ w'.cell? ⟨(ad462.add ((x5_1).toNat * 5)).block, (ad462.add ((x5_1).toNat * 5)).off + 4, none⟩ = some (.slice A462_4 ((rd_T54 l0 x5_1).f4).length c462_4) ∧ w'.cell? (ad463.add ((x5_1).toNat * 5)) = some (.string ((rd_T54 l1 x5_1).f0)) ∧ w'.cell? ⟨(ad463.add ((x5_1).toNat * 5)).block, (ad463.add ((x5_1).toNat * 5)).off + 1, none⟩ = some (.string ((rd_T54 l1 x5_1).f1)) ∧ w'.cell? ⟨(ad463.add ((x5_1).toNat * 5)).block, (ad463.add ((x5_1).toNat * 5)).off + 2, none⟩ = some (.slice A463_2 ((rd_T54 l1 x5_1).f2).length c463_2) ∧ w'.cell? ⟨(ad463.add ((x5_1).toNat * 5)).block, (ad463.add ((x5_1).toNat * 5)).off + 3, none⟩ = some (.string ((rd_T54 l1 x5_1).f3)) ∧ w'.cell? ⟨(ad463.add ((x5_1).toNat * 5)).block, (ad463.add ((x5_1).toNat * 5)).off + 4, none⟩ = some (.slice A463_4 ((rd_T54 l1 x5_1).f4).length c463_4)) (ds := []) (bs_ 10 0) (by kernel_rfl) rfl (by kernel_rfl) ⟨((HB.out.cell (World.block_lt_of_cell? w _ hw462_0)).trans hw462_0), ((HB.out.cell (World.block_lt_of_cell? w _ hw462_1)).trans hw462_1), ((HB.out.cell (World.block_lt_of_cell? w _ hw462_2)).trans hw462_2), ((HB.out.cell (World.block_lt_of_cell? w _ hw462_3)).trans hw462_3), ((HB.out.cell (World.block_lt_of_cell? w _ hw462_4)).trans hw462_4), ((HB.out.cell (World.block_lt_of_cell? w _ hw463_0)).trans hw463_0), ((HB.out.cell (World.block_lt_of_cell? w _ hw463_1)).trans hw463_1), ((HB.out.cell (World.block_lt_of_cell? w _ hw463_2)).trans hw463_2), ((HB.out.cell (World.block_lt_of_cell? w _ hw463_3)).trans hw463_3), ((HB.out.cell (World.block_lt_of_cell? w _ hw463_4)).trans hw463_4)⟩ (fun hHeld => ?_); refine with_tabW laws_eqItemS.tab6 laws_eqItemS.bits6 (fun HT_ HW_ => ?_)
   generalize wr.drew = w11 at HB HR462_2 HR462_4 HR463_2 HR463_4 hx462_0 hx462_1 hx462_2 hx462_3 hx462_4 hx463_0 hx463_1 hx463_2 hx463_3 hx463_4 hHeld ⊢
   refine pS_ 0 ?_
   refine pS_ 1 ?_
   refine pS_ 2 ?_
   refine pS_ 4 ?_
   refine pS_ 5 ?_
   refine pS_ 6 ?_
   refine t10_ 3 hHeld ?_
   refine t10_ 7 hHeld ?_
   refine oS_ 8 (fun K hK => ?_)
   refine gS_ Tryz.func36 #[.agg #[.string ((rd_T54 l0 x5_1).f0), .string ((rd_T54 l0 x5_1).f1), .slice A462_2 ((rd_T54 l0 x5_1).f2).length c462_2, .string ((rd_T54 l0 x5_1).f3), .slice A462_4 ((rd_T54 l0 x5_1).f4).length c462_4], .agg #[.string ((rd_T54 l1 x5_1).f0), .string ((rd_T54 l1 x5_1).f1), .slice A463_2 ((rd_T54 l1 x5_1).f2).length c463_2, .string ((rd_T54 l1 x5_1).f3), .slice A463_4 ((rd_T54 l1 x5_1).f4).length c463_4]] ?_
   with_reducible refine (laws_eqItem.calls k1 ((rd_T54 l0 x5_1).f0) ((rd_T54 l0 x5_1).f1) _ _ ((rd_T54 l0 x5_1).f2) ((rd_T54 l0 x5_1).f3) _ _ ((rd_T54 l0 x5_1).f4) ((rd_T54 l1 x5_1).f0) ((rd_T54 l1 x5_1).f1) _ _ ((rd_T54 l1 x5_1).f2) ((rd_T54 l1 x5_1).f3) _ _ ((rd_T54 l1 x5_1).f4) false _ ?side1 ?side2 ?side3 ?side4 ?side5 ?side6 ?side7 ?side8 A7.out).mono ?_
   (case side1 => exact cS_ HR462_2 HB)
   (case side2 => exact HC462_2.out)
   (case side3 => exact cS_ HR462_4 HB)
   (case side4 => exact HC462_4.out)
   (case side5 => exact cS_ HR463_2 HB)
   (case side6 => exact HC463_2.out)
   (case side7 => exact cS_ HR463_4 HB)
   (case side8 => exact HC463_4.out)
   rintro e w12 ⟨rfl, hb⟩
   refine ⟨_, rfl, ?_⟩
   have n0_ := Aside0.mk (below_step (bw_ HB) hb)
   clear HB
   have HB := n0_
   clear n0_
   (try clear hb)
   (try clear hb2)
   (try clear hk)
   (try clear hi)
   refine hK.out _ _ ⟨((HB.out.cell (World.block_lt_of_cell? w _ hw462_0)).trans hw462_0), ((HB.out.cell (World.block_lt_of_cell? w _ hw462_1)).trans hw462_1), ((HB.out.cell (World.block_lt_of_cell? w _ hw462_2)).trans hw462_2), ((HB.out.cell (World.block_lt_of_cell? w _ hw462_3)).trans hw462_3), ((HB.out.cell (World.block_lt_of_cell? w _ hw462_4)).trans hw462_4), ((HB.out.cell (World.block_lt_of_cell? w _ hw463_0)).trans hw463_0), ((HB.out.cell (World.block_lt_of_cell? w _ hw463_1)).trans hw463_1), ((HB.out.cell (World.block_lt_of_cell? w _ hw463_2)).trans hw463_2), ((HB.out.cell (World.block_lt_of_cell? w _ hw463_3)).trans hw463_3), ((HB.out.cell (World.block_lt_of_cell? w _ hw463_4)).trans hw463_4)⟩ (fun hHeld => ?_)
   clear hK K
   refine nS_ 25 ?_
   refine pS_ 9 ?_
   refine done_ (done_of HT_.out (by kernel_rfl)) ?_
   try go_wp2
   go_ret
   exact ⟨eR_, bw_ HB⟩}}
   {
   rw [if_neg c6] at H
   exact absurd H (by simp)}}
   {
   rw [if_neg c5] at H
   exact absurd H (by simp)}}
   {
   rw [if_neg c4] at H
   have c4b0 : decide (x5_1 < (l0.length : Int)) = false := decide_eq_false c4
   (try (have c4b0' := c4b0; simp only [hl463_4] at c4b0'))
   clear c4
   obtain rfl := Option.some.inj H
   go_wp2
   go_ret
   exact ⟨eR_, bw_ HB⟩}}
 {
 rw [if_neg c3] at H
 have c3b0 : ((l0.length : Int) == (l1.length : Int)) = false := beq_eq_false_iff_ne.mpr c3
 have c3b1 : ((l0.length : Int) != (l1.length : Int)) = true := bne_iff_ne.mpr c3
 have c3b2 : (l0.length == l1.length) = false := by first | simpa using c3 | (simp at c3 ⊢; omega)
 obtain rfl := Option.some.inj H
 go_enter Tryz.func11, Tryz.ntmps11
 go_wp2
 go_ret
 exact ⟨eR_, bw_ HB⟩
}
end Go.Proofs.YtkhhkpjeafknpaaGreatDoor.P
end

section
namespace Go.Proofs.YtkhhkpjeafknpaaGreatDoor.P
open Go.RowKit Go.Proofs.YtkhhkpjeafknpaaGreatDoorW.PrintWords Go.Proofs.YtkhhkpjeafknpaaGreatDoorW.PrintLast Go.Proofs.YtkhhkpjeafknpaaGreatDoorW.PrintMore Go.Proofs.YtkhhkpjeafknpaaGreatDoorM
attribute [local go_sem] max2_int min2_int max_two min_two max_three min_three max_four min_four
set_option linter.unusedVariables false
set_option linter.unusedSimpArgs false
def laws_FnExactStoreOk.f (k : Nat) (l0 : List (S50)) : Option (Bool) := (laws_szItemS.f k l0 1048576).bind fun t465 => (if t465 < 0 then (some true) else ((laws_toItemS.f k l0).bind fun t466 => ((spec_StoreOk.f k t466).bind fun t469 => ((laws_toItemS.f k l0).bind fun t470 => ((impl_StoreOk.f k t470).bind fun t473 => (if (t473 != t469) = true then (some false) else ((laws_toItemS.f k l0).bind fun t474 => ((laws_eqItemS.f k t470 t474).bind fun t477 => (if t477 = true then (some true) else (some false))))))))))
set_option maxHeartbeats 8000000 in
set_option maxRecDepth 100000 in
theorem laws_FnExactStoreOk.calls (k : Nat) (A0 : Option Addr) (c0 : Nat) (l0 : List (S50)) (r : Bool) (w : World) (hE : EnvW w) (hr0 : Kd.C k50 w A0 l0.length l0) (hc0 : l0.length ≤ c0) (h : laws_FnExactStoreOk.f k l0 = some r) :
 Calls Tryz.prog 3 #[.slice A0 l0.length c0] w fun e w' => e = .returned (.bool r) ∧ Below w.heap.size w w' := by
 have HE := Aside0.mk hE
 clear hE
 have HR0 := Aside0.mk hr0
 have HC0 := Aside0.mk hc0
 clear hr0 hc0
 have HB := Aside0.mk (Below.refl w.heap.size w)
 have H : ((laws_szItemS.f k l0 1048576).bind fun t465 => (if t465 < 0 then (some true) else ((laws_toItemS.f k l0).bind fun t466 => ((spec_StoreOk.f k t466).bind fun t469 => ((laws_toItemS.f k l0).bind fun t470 => ((impl_StoreOk.f k t470).bind fun t473 => (if (t473 != t469) = true then (some false) else ((laws_toItemS.f k l0).bind fun t474 => ((laws_eqItemS.f k t470 t474).bind fun t477 => (if t477 = true then (some true) else (some false))))))))))) = some r := h
 clear h
 replace H := Option.bind_eq_some_iff.mp H
 obtain ⟨t465, A20, H⟩ := H
 have A2 := Aside0.mk A20
 clear A20
 by_cases c3 : t465 < 0
 {
 rw [if_pos c3] at H
 have c3b0 : decide (t465 < 0) = true := decide_eq_true c3
 clear c3
 obtain rfl := Option.some.inj H
 go_enter Tryz.func3, Tryz.ntmps3
 go_wp2_with (first | ((with_reducible refine gate_callee (f := 7) rfl ?_); refine gL_ (some 9) Tryz.func7 #[.slice A0 l0.length c0, .int .i64 1048576] ?_; (with_reducible refine (laws_szItemS.calls k _ _ l0 1048576 t465 _ ?side1 ?side2 A2.out).mono ?_); (case side1 => repeat (first | exact HR0.out | (with_reducible refine Kd.C_alloc ?_ _) | (with_reducible refine Kd.C_drewN ?_ _) | (with_reducible refine Kd.C_drew ?_))); (case side2 => exact HC0.out); rintro e w4 ⟨rfl, hb⟩; refine ⟨_, rfl, ?_⟩; have n0_ := Aside0.mk (below_step (bw_ HB) hb); clear HB; have HB := n0_; clear n0_; (try clear hb); (try clear hb2); (try clear hk); (try clear hi)))
 go_ret
 exact ⟨eR_, bw_ HB⟩}
 {
 rw [if_neg c3] at H
 have c3b0 : decide (t465 < 0) = false := decide_eq_false c3
 clear c3
 replace H := Option.bind_eq_some_iff.mp H
 obtain ⟨t466, A50, H⟩ := H
 have A5 := Aside0.mk A50
 clear A50
 replace H := Option.bind_eq_some_iff.mp H
 obtain ⟨t469, A60, H⟩ := H
 have A6 := Aside0.mk A60
 clear A60
 replace H := Option.bind_eq_some_iff.mp H
 obtain ⟨t470, A70, H⟩ := H
 have A7 := Aside0.mk A70
 clear A70
 replace H := Option.bind_eq_some_iff.mp H
 obtain ⟨t473, A80, H⟩ := H
 have A8 := Aside0.mk A80
 clear A80
 by_cases c9 : (t473 != t469) = true
 {
 rw [if_pos c9] at H
 have c9b0 : (t473 != t469) = true := c9
 (try (have c9b1 : decide (t473 = t469) = false := by simpa using c9))
 (try (have c9b2 : (t473 == t469) = false := by simpa using c9))
 (try (have c9b3 : ¬ (t473 = t469) := by simpa using c9))
 clear c9
 obtain rfl := Option.some.inj H
 go_enter Tryz.func3, Tryz.ntmps3
 go_wp2_with (first | ((with_reducible refine gate_callee (f := 7) rfl ?_); refine gL_ (some 9) Tryz.func7 #[.slice A0 l0.length c0, .int .i64 1048576] ?_; (with_reducible refine (laws_szItemS.calls k _ _ l0 1048576 t465 _ ?side1 ?side2 A2.out).mono ?_); (case side1 => repeat (first | exact HR0.out | (with_reducible refine Kd.C_alloc ?_ _) | (with_reducible refine Kd.C_drewN ?_ _) | (with_reducible refine Kd.C_drew ?_))); (case side2 => exact HC0.out); rintro e w10 ⟨rfl, hb⟩; refine ⟨_, rfl, ?_⟩; have n0_ := Aside0.mk (below_step (bw_ HB) hb); clear HB; have HB := n0_; clear n0_; (try clear hb); (try clear hb2); (try clear hk); (try clear hi)) | ((with_reducible refine gate_callee (f := 9) rfl ?_); refine gL_ (some 13) Tryz.func9 #[.slice A0 l0.length c0] ?_; (with_reducible refine (laws_toItemS.calls k _ _ l0 t466 _ ?side1 ?side2 A5.out).mono ?_); (case side1 => exact cS_ HR0 HB); (case side2 => exact HC0.out); rintro e w11 ⟨v467, rfl, ho0, hb⟩; refine ⟨_, rfl, ?_⟩; have n0_ := Aside0.mk (Kd.S_lower ho0 (below_size (bw_ HB))); have n1_ := Aside0.mk (below_step (bw_ HB) hb); clear HB; have HO468 := n0_; have HB := n1_; clear n0_ n1_; (try clear hb); (try clear hb2); (try clear hk); (try clear hi); (try clear ho0); obtain ⟨Ao12, co12, eo12⟩ := Kd.S_slice HO468.out; subst eo12) | ((with_reducible refine gate_callee (f := 8) rfl ?_); refine gL_ (some 14) Tryz.func8 #[.slice Ao12 t466.length co12] ?_; (with_reducible refine (spec_StoreOk.calls k _ _ t466 t469 _ ?side1 ?side2 A6.out).mono ?_); (case side1 => repeat (first | exact (Kd.S_reads' HO468.out).2.2 | (with_reducible refine Kd.C_alloc ?_ _) | (with_reducible refine Kd.C_drewN ?_ _) | (with_reducible refine Kd.C_drew ?_))); (case side2 => exact (Kd.S_reads' HO468.out).2.1); rintro e w13 ⟨rfl, hb⟩; refine ⟨_, rfl, ?_⟩; have n0_ := Aside0.mk (Kd.S_below (by (with_reducible repeat (first | apply Kd.S_alloc | apply Kd.S_drewN | apply Kd.S_drew)); exact HO468.out) hb); have n1_ := Aside0.mk (below_step (bw_ HB) hb); clear HO468; clear HB; have HO468 := n0_; have HB := n1_; clear n0_ n1_; (try clear hb); (try clear hb2); (try clear hk); (try clear hi)) | ((with_reducible refine gate_callee (f := 9) rfl ?_); refine gL_ (some 16) Tryz.func9 #[.slice A0 l0.length c0] ?_; (with_reducible refine (laws_toItemS.calls k _ _ l0 t470 _ ?side1 ?side2 A7.out).mono ?_); (case side1 => exact cS_ HR0 HB); (case side2 => exact HC0.out); rintro e w14 ⟨v471, rfl, ho0, hb⟩; refine ⟨_, rfl, ?_⟩; have n0_ := Aside0.mk (Kd.S_elder' (by (with_reducible repeat (first | apply Kd.S_alloc | apply Kd.S_drewN | apply Kd.S_drew)); exact HO468.out) (Kd.S_base ho0) hb); have n1_ := Aside0.mk (Kd.S_lower (Kd.S_new' ho0 (Kd.S_lt (by (with_reducible repeat (first | apply Kd.S_alloc | apply Kd.S_drewN | apply Kd.S_drew)); exact HO468.out))) (below_size (bw_ HB))); have n2_ := Aside0.mk (below_step (bw_ HB) hb); clear HO468; clear HB; have HO468 := n0_; have HO472 := n1_; have HB := n2_; clear n0_ n1_ n2_; (try clear hb); (try clear hb2); (try clear hk); (try clear hi); (try clear ho0); obtain ⟨Ao15, co15, eo15⟩ := Kd.S_slice HO472.out; subst eo15) | ((with_reducible refine gate_callee (f := 10) rfl ?_); refine gL_ (some 18) Tryz.func10 #[.slice Ao15 t470.length co15] ?_; (with_reducible refine (impl_StoreOk.calls k _ _ t470 t473 _ ?side1 ?side2 ?side3 A8.out).mono ?_); (case side1 => refine EnvW.below HE.out ?_; repeat (first | (with_reducible first | exact HB.out | apply below_alloc | apply pw_below_drewN | apply below_drew1) | exact HB.out)); (case side2 => repeat (first | exact (Kd.S_reads' HO472.out).2.2 | (with_reducible refine Kd.C_alloc ?_ _) | (with_reducible refine Kd.C_drewN ?_ _) | (with_reducible refine Kd.C_drew ?_))); (case side3 => exact (Kd.S_reads' HO472.out).2.1); rintro e w16 ⟨rfl, hb⟩; refine ⟨_, rfl, ?_⟩; have n0_ := Aside0.mk (Kd.S_below (by (with_reducible repeat (first | apply Kd.S_alloc | apply Kd.S_drewN | apply Kd.S_drew)); exact HO468.out) hb); have n1_ := Aside0.mk (Kd.S_below (by (with_reducible repeat (first | apply Kd.S_alloc | apply Kd.S_drewN | apply Kd.S_drew)); exact HO472.out) hb); have n2_ := Aside0.mk (below_step (bw_ HB) hb); clear HO468; clear HO472; clear HB; have HO468 := n0_; have HO472 := n1_; have HB := n2_; clear n0_ n1_ n2_; (try clear hb); (try clear hb2); (try clear hk); (try clear hi)))
 go_ret
 exact ⟨eR_, bw_ HB⟩}
 {
 rw [if_neg c9] at H
 have c9b0 : (t473 != t469) = false := by simpa using c9
 (try (have c9b1 : decide (t473 = t469) = true := by simpa using c9))
 (try (have c9b2 : (t473 == t469) = true := by simpa using c9))
 clear c9
 replace H := Option.bind_eq_some_iff.mp H
 obtain ⟨t474, A170, H⟩ := H
 have A17 := Aside0.mk A170
 clear A170
 replace H := Option.bind_eq_some_iff.mp H
 obtain ⟨t477, A180, H⟩ := H
 have A18 := Aside0.mk A180
 clear A180
 by_cases c19 : t477 = true
 {
 subst c19
 rw [if_pos rfl] at H
 obtain rfl := Option.some.inj H
 go_enter Tryz.func3, Tryz.ntmps3
 go_wp2_with (first | ((with_reducible refine gate_callee (f := 7) rfl ?_); refine gL_ (some 9) Tryz.func7 #[.slice A0 l0.length c0, .int .i64 1048576] ?_; (with_reducible refine (laws_szItemS.calls k _ _ l0 1048576 t465 _ ?side1 ?side2 A2.out).mono ?_); (case side1 => repeat (first | exact HR0.out | (with_reducible refine Kd.C_alloc ?_ _) | (with_reducible refine Kd.C_drewN ?_ _) | (with_reducible refine Kd.C_drew ?_))); (case side2 => exact HC0.out); rintro e w20 ⟨rfl, hb⟩; refine ⟨_, rfl, ?_⟩; have n0_ := Aside0.mk (below_step (bw_ HB) hb); clear HB; have HB := n0_; clear n0_; (try clear hb); (try clear hb2); (try clear hk); (try clear hi)) | ((with_reducible refine gate_callee (f := 9) rfl ?_); refine gL_ (some 13) Tryz.func9 #[.slice A0 l0.length c0] ?_; (with_reducible refine (laws_toItemS.calls k _ _ l0 t466 _ ?side1 ?side2 A5.out).mono ?_); (case side1 => exact cS_ HR0 HB); (case side2 => exact HC0.out); rintro e w21 ⟨v467, rfl, ho0, hb⟩; refine ⟨_, rfl, ?_⟩; have n0_ := Aside0.mk (Kd.S_lower ho0 (below_size (bw_ HB))); have n1_ := Aside0.mk (below_step (bw_ HB) hb); clear HB; have HO468 := n0_; have HB := n1_; clear n0_ n1_; (try clear hb); (try clear hb2); (try clear hk); (try clear hi); (try clear ho0); obtain ⟨Ao22, co22, eo22⟩ := Kd.S_slice HO468.out; subst eo22) | ((with_reducible refine gate_callee (f := 8) rfl ?_); refine gL_ (some 14) Tryz.func8 #[.slice Ao22 t466.length co22] ?_; (with_reducible refine (spec_StoreOk.calls k _ _ t466 t469 _ ?side1 ?side2 A6.out).mono ?_); (case side1 => repeat (first | exact (Kd.S_reads' HO468.out).2.2 | (with_reducible refine Kd.C_alloc ?_ _) | (with_reducible refine Kd.C_drewN ?_ _) | (with_reducible refine Kd.C_drew ?_))); (case side2 => exact (Kd.S_reads' HO468.out).2.1); rintro e w23 ⟨rfl, hb⟩; refine ⟨_, rfl, ?_⟩; have n0_ := Aside0.mk (Kd.S_below (by (with_reducible repeat (first | apply Kd.S_alloc | apply Kd.S_drewN | apply Kd.S_drew)); exact HO468.out) hb); have n1_ := Aside0.mk (below_step (bw_ HB) hb); clear HO468; clear HB; have HO468 := n0_; have HB := n1_; clear n0_ n1_; (try clear hb); (try clear hb2); (try clear hk); (try clear hi)) | ((with_reducible refine gate_callee (f := 9) rfl ?_); refine gL_ (some 16) Tryz.func9 #[.slice A0 l0.length c0] ?_; (with_reducible refine (laws_toItemS.calls k _ _ l0 t470 _ ?side1 ?side2 A7.out).mono ?_); (case side1 => exact cS_ HR0 HB); (case side2 => exact HC0.out); rintro e w24 ⟨v471, rfl, ho0, hb⟩; refine ⟨_, rfl, ?_⟩; have n0_ := Aside0.mk (Kd.S_elder' (by (with_reducible repeat (first | apply Kd.S_alloc | apply Kd.S_drewN | apply Kd.S_drew)); exact HO468.out) (Kd.S_base ho0) hb); have n1_ := Aside0.mk (Kd.S_lower (Kd.S_new' ho0 (Kd.S_lt (by (with_reducible repeat (first | apply Kd.S_alloc | apply Kd.S_drewN | apply Kd.S_drew)); exact HO468.out))) (below_size (bw_ HB))); have n2_ := Aside0.mk (below_step (bw_ HB) hb); clear HO468; clear HB; have HO468 := n0_; have HO472 := n1_; have HB := n2_; clear n0_ n1_ n2_; (try clear hb); (try clear hb2); (try clear hk); (try clear hi); (try clear ho0); obtain ⟨Ao25, co25, eo25⟩ := Kd.S_slice HO472.out; subst eo25) | ((with_reducible refine gate_callee (f := 10) rfl ?_); refine gL_ (some 18) Tryz.func10 #[.slice Ao25 t470.length co25] ?_; (with_reducible refine (impl_StoreOk.calls k _ _ t470 t473 _ ?side1 ?side2 ?side3 A8.out).mono ?_); (case side1 => refine EnvW.below HE.out ?_; repeat (first | (with_reducible first | exact HB.out | apply below_alloc | apply pw_below_drewN | apply below_drew1) | exact HB.out)); (case side2 => repeat (first | exact (Kd.S_reads' HO472.out).2.2 | (with_reducible refine Kd.C_alloc ?_ _) | (with_reducible refine Kd.C_drewN ?_ _) | (with_reducible refine Kd.C_drew ?_))); (case side3 => exact (Kd.S_reads' HO472.out).2.1); rintro e w26 ⟨rfl, hb⟩; refine ⟨_, rfl, ?_⟩; have n0_ := Aside0.mk (Kd.S_below (by (with_reducible repeat (first | apply Kd.S_alloc | apply Kd.S_drewN | apply Kd.S_drew)); exact HO468.out) hb); have n1_ := Aside0.mk (Kd.S_below (by (with_reducible repeat (first | apply Kd.S_alloc | apply Kd.S_drewN | apply Kd.S_drew)); exact HO472.out) hb); have n2_ := Aside0.mk (below_step (bw_ HB) hb); clear HO468; clear HO472; clear HB; have HO468 := n0_; have HO472 := n1_; have HB := n2_; clear n0_ n1_ n2_; (try clear hb); (try clear hb2); (try clear hk); (try clear hi)) | ((with_reducible refine gate_callee (f := 9) rfl ?_); refine gL_ (some 24) Tryz.func9 #[.slice A0 l0.length c0] ?_; (with_reducible refine (laws_toItemS.calls k _ _ l0 t474 _ ?side1 ?side2 A17.out).mono ?_); (case side1 => exact cS_ HR0 HB); (case side2 => exact HC0.out); rintro e w27 ⟨v475, rfl, ho0, hb⟩; refine ⟨_, rfl, ?_⟩; have n0_ := Aside0.mk (Kd.S_elder' (by (with_reducible repeat (first | apply Kd.S_alloc | apply Kd.S_drewN | apply Kd.S_drew)); exact HO468.out) (Kd.S_base ho0) hb); have n1_ := Aside0.mk (Kd.S_elder' (by (with_reducible repeat (first | apply Kd.S_alloc | apply Kd.S_drewN | apply Kd.S_drew)); exact HO472.out) (Kd.S_base ho0) hb); have n2_ := Aside0.mk (Kd.S_lower (Kd.S_new' (Kd.S_new' ho0 (Kd.S_lt (by (with_reducible repeat (first | apply Kd.S_alloc | apply Kd.S_drewN | apply Kd.S_drew)); exact HO468.out))) (Kd.S_lt (by (with_reducible repeat (first | apply Kd.S_alloc | apply Kd.S_drewN | apply Kd.S_drew)); exact HO472.out))) (below_size (bw_ HB))); have n3_ := Aside0.mk (below_step (bw_ HB) hb); clear HO468; clear HO472; clear HB; have HO468 := n0_; have HO472 := n1_; have HO476 := n2_; have HB := n3_; clear n0_ n1_ n2_ n3_; (try clear hb); (try clear hb2); (try clear hk); (try clear hi); (try clear ho0); obtain ⟨Ao28, co28, eo28⟩ := Kd.S_slice HO476.out; subst eo28) | ((with_reducible refine gate_callee (f := 11) rfl ?_); refine gL_ (some 25) Tryz.func11 #[.slice Ao25 t470.length co25, .slice Ao28 t474.length co28] ?_; (with_reducible refine (laws_eqItemS.calls k _ _ t470 _ _ t474 true _ ?side1 ?side2 ?side3 ?side4 A18.out).mono ?_); (case side1 => repeat (first | exact (Kd.S_reads' HO472.out).2.2 | (with_reducible refine Kd.C_alloc ?_ _) | (with_reducible refine Kd.C_drewN ?_ _) | (with_reducible refine Kd.C_drew ?_))); (case side2 => exact (Kd.S_reads' HO472.out).2.1); (case side3 => repeat (first | exact (Kd.S_reads' HO476.out).2.2 | (with_reducible refine Kd.C_alloc ?_ _) | (with_reducible refine Kd.C_drewN ?_ _) | (with_reducible refine Kd.C_drew ?_))); (case side4 => exact (Kd.S_reads' HO476.out).2.1); rintro e w29 ⟨rfl, hb⟩; refine ⟨_, rfl, ?_⟩; have n0_ := Aside0.mk (Kd.S_below (by (with_reducible repeat (first | apply Kd.S_alloc | apply Kd.S_drewN | apply Kd.S_drew)); exact HO468.out) hb); have n1_ := Aside0.mk (Kd.S_below (by (with_reducible repeat (first | apply Kd.S_alloc | apply Kd.S_drewN | apply Kd.S_drew)); exact HO472.out) hb); have n2_ := Aside0.mk (Kd.S_below (by (with_reducible repeat (first | apply Kd.S_alloc | apply Kd.S_drewN | apply Kd.S_drew)); exact HO476.out) hb); have n3_ := Aside0.mk (below_step (bw_ HB) hb); clear HO468; clear HO472; clear HO476; clear HB; have HO468 := n0_; have HO472 := n1_; have HO476 := n2_; have HB := n3_; clear n0_ n1_ n2_ n3_; (try clear hb); (try clear hb2); (try clear hk); (try clear hi)))
 go_ret
 exact ⟨eR_, bw_ HB⟩}
 {
 replace c19 := Bool.eq_false_iff.mpr c19
 subst c19
 rw [if_neg (show ¬ (false = true) by decide)] at H
 obtain rfl := Option.some.inj H
 go_enter Tryz.func3, Tryz.ntmps3
 go_wp2_with (first | ((with_reducible refine gate_callee (f := 7) rfl ?_); refine gL_ (some 9) Tryz.func7 #[.slice A0 l0.length c0, .int .i64 1048576] ?_; (with_reducible refine (laws_szItemS.calls k _ _ l0 1048576 t465 _ ?side1 ?side2 A2.out).mono ?_); (case side1 => repeat (first | exact HR0.out | (with_reducible refine Kd.C_alloc ?_ _) | (with_reducible refine Kd.C_drewN ?_ _) | (with_reducible refine Kd.C_drew ?_))); (case side2 => exact HC0.out); rintro e w30 ⟨rfl, hb⟩; refine ⟨_, rfl, ?_⟩; have n0_ := Aside0.mk (below_step (bw_ HB) hb); clear HB; have HB := n0_; clear n0_; (try clear hb); (try clear hb2); (try clear hk); (try clear hi)) | ((with_reducible refine gate_callee (f := 9) rfl ?_); refine gL_ (some 13) Tryz.func9 #[.slice A0 l0.length c0] ?_; (with_reducible refine (laws_toItemS.calls k _ _ l0 t466 _ ?side1 ?side2 A5.out).mono ?_); (case side1 => exact cS_ HR0 HB); (case side2 => exact HC0.out); rintro e w31 ⟨v467, rfl, ho0, hb⟩; refine ⟨_, rfl, ?_⟩; have n0_ := Aside0.mk (Kd.S_lower ho0 (below_size (bw_ HB))); have n1_ := Aside0.mk (below_step (bw_ HB) hb); clear HB; have HO468 := n0_; have HB := n1_; clear n0_ n1_; (try clear hb); (try clear hb2); (try clear hk); (try clear hi); (try clear ho0); obtain ⟨Ao32, co32, eo32⟩ := Kd.S_slice HO468.out; subst eo32) | ((with_reducible refine gate_callee (f := 8) rfl ?_); refine gL_ (some 14) Tryz.func8 #[.slice Ao32 t466.length co32] ?_; (with_reducible refine (spec_StoreOk.calls k _ _ t466 t469 _ ?side1 ?side2 A6.out).mono ?_); (case side1 => repeat (first | exact (Kd.S_reads' HO468.out).2.2 | (with_reducible refine Kd.C_alloc ?_ _) | (with_reducible refine Kd.C_drewN ?_ _) | (with_reducible refine Kd.C_drew ?_))); (case side2 => exact (Kd.S_reads' HO468.out).2.1); rintro e w33 ⟨rfl, hb⟩; refine ⟨_, rfl, ?_⟩; have n0_ := Aside0.mk (Kd.S_below (by (with_reducible repeat (first | apply Kd.S_alloc | apply Kd.S_drewN | apply Kd.S_drew)); exact HO468.out) hb); have n1_ := Aside0.mk (below_step (bw_ HB) hb); clear HO468; clear HB; have HO468 := n0_; have HB := n1_; clear n0_ n1_; (try clear hb); (try clear hb2); (try clear hk); (try clear hi)) | ((with_reducible refine gate_callee (f := 9) rfl ?_); refine gL_ (some 16) Tryz.func9 #[.slice A0 l0.length c0] ?_; (with_reducible refine (laws_toItemS.calls k _ _ l0 t470 _ ?side1 ?side2 A7.out).mono ?_); (case side1 => exact cS_ HR0 HB); (case side2 => exact HC0.out); rintro e w34 ⟨v471, rfl, ho0, hb⟩; refine ⟨_, rfl, ?_⟩; have n0_ := Aside0.mk (Kd.S_elder' (by (with_reducible repeat (first | apply Kd.S_alloc | apply Kd.S_drewN | apply Kd.S_drew)); exact HO468.out) (Kd.S_base ho0) hb); have n1_ := Aside0.mk (Kd.S_lower (Kd.S_new' ho0 (Kd.S_lt (by (with_reducible repeat (first | apply Kd.S_alloc | apply Kd.S_drewN | apply Kd.S_drew)); exact HO468.out))) (below_size (bw_ HB))); have n2_ := Aside0.mk (below_step (bw_ HB) hb); clear HO468; clear HB; have HO468 := n0_; have HO472 := n1_; have HB := n2_; clear n0_ n1_ n2_; (try clear hb); (try clear hb2); (try clear hk); (try clear hi); (try clear ho0); obtain ⟨Ao35, co35, eo35⟩ := Kd.S_slice HO472.out; subst eo35) | ((with_reducible refine gate_callee (f := 10) rfl ?_); refine gL_ (some 18) Tryz.func10 #[.slice Ao35 t470.length co35] ?_; (with_reducible refine (impl_StoreOk.calls k _ _ t470 t473 _ ?side1 ?side2 ?side3 A8.out).mono ?_); (case side1 => refine EnvW.below HE.out ?_; repeat (first | (with_reducible first | exact HB.out | apply below_alloc | apply pw_below_drewN | apply below_drew1) | exact HB.out)); (case side2 => repeat (first | exact (Kd.S_reads' HO472.out).2.2 | (with_reducible refine Kd.C_alloc ?_ _) | (with_reducible refine Kd.C_drewN ?_ _) | (with_reducible refine Kd.C_drew ?_))); (case side3 => exact (Kd.S_reads' HO472.out).2.1); rintro e w36 ⟨rfl, hb⟩; refine ⟨_, rfl, ?_⟩; have n0_ := Aside0.mk (Kd.S_below (by (with_reducible repeat (first | apply Kd.S_alloc | apply Kd.S_drewN | apply Kd.S_drew)); exact HO468.out) hb); have n1_ := Aside0.mk (Kd.S_below (by (with_reducible repeat (first | apply Kd.S_alloc | apply Kd.S_drewN | apply Kd.S_drew)); exact HO472.out) hb); have n2_ := Aside0.mk (below_step (bw_ HB) hb); clear HO468; clear HO472; clear HB; have HO468 := n0_; have HO472 := n1_; have HB := n2_; clear n0_ n1_ n2_; (try clear hb); (try clear hb2); (try clear hk); (try clear hi)) | ((with_reducible refine gate_callee (f := 9) rfl ?_); refine gL_ (some 24) Tryz.func9 #[.slice A0 l0.length c0] ?_; (with_reducible refine (laws_toItemS.calls k _ _ l0 t474 _ ?side1 ?side2 A17.out).mono ?_); (case side1 => exact cS_ HR0 HB); (case side2 => exact HC0.out); rintro e w37 ⟨v475, rfl, ho0, hb⟩; refine ⟨_, rfl, ?_⟩; have n0_ := Aside0.mk (Kd.S_elder' (by (with_reducible repeat (first | apply Kd.S_alloc | apply Kd.S_drewN | apply Kd.S_drew)); exact HO468.out) (Kd.S_base ho0) hb); have n1_ := Aside0.mk (Kd.S_elder' (by (with_reducible repeat (first | apply Kd.S_alloc | apply Kd.S_drewN | apply Kd.S_drew)); exact HO472.out) (Kd.S_base ho0) hb); have n2_ := Aside0.mk (Kd.S_lower (Kd.S_new' (Kd.S_new' ho0 (Kd.S_lt (by (with_reducible repeat (first | apply Kd.S_alloc | apply Kd.S_drewN | apply Kd.S_drew)); exact HO468.out))) (Kd.S_lt (by (with_reducible repeat (first | apply Kd.S_alloc | apply Kd.S_drewN | apply Kd.S_drew)); exact HO472.out))) (below_size (bw_ HB))); have n3_ := Aside0.mk (below_step (bw_ HB) hb); clear HO468; clear HO472; clear HB; have HO468 := n0_; have HO472 := n1_; have HO476 := n2_; have HB := n3_; clear n0_ n1_ n2_ n3_; (try clear hb); (try clear hb2); (try clear hk); (try clear hi); (try clear ho0); obtain ⟨Ao38, co38, eo38⟩ := Kd.S_slice HO476.out; subst eo38) | ((with_reducible refine gate_callee (f := 11) rfl ?_); refine gL_ (some 25) Tryz.func11 #[.slice Ao35 t470.length co35, .slice Ao38 t474.length co38] ?_; (with_reducible refine (laws_eqItemS.calls k _ _ t470 _ _ t474 false _ ?side1 ?side2 ?side3 ?side4 A18.out).mono ?_); (case side1 => repeat (first | exact (Kd.S_reads' HO472.out).2.2 | (with_reducible refine Kd.C_alloc ?_ _) | (with_reducible refine Kd.C_drewN ?_ _) | (with_reducible refine Kd.C_drew ?_))); (case side2 => exact (Kd.S_reads' HO472.out).2.1); (case side3 => repeat (first | exact (Kd.S_reads' HO476.out).2.2 | (with_reducible refine Kd.C_alloc ?_ _) | (with_reducible refine Kd.C_drewN ?_ _) | (with_reducible refine Kd.C_drew ?_))); (case side4 => exact (Kd.S_reads' HO476.out).2.1); rintro e w39 ⟨rfl, hb⟩; refine ⟨_, rfl, ?_⟩; have n0_ := Aside0.mk (Kd.S_below (by (with_reducible repeat (first | apply Kd.S_alloc | apply Kd.S_drewN | apply Kd.S_drew)); exact HO468.out) hb); have n1_ := Aside0.mk (Kd.S_below (by (with_reducible repeat (first | apply Kd.S_alloc | apply Kd.S_drewN | apply Kd.S_drew)); exact HO472.out) hb); have n2_ := Aside0.mk (Kd.S_below (by (with_reducible repeat (first | apply Kd.S_alloc | apply Kd.S_drewN | apply Kd.S_drew)); exact HO476.out) hb); have n3_ := Aside0.mk (below_step (bw_ HB) hb); clear HO468; clear HO472; clear HO476; clear HB; have HO468 := n0_; have HO472 := n1_; have HO476 := n2_; have HB := n3_; clear n0_ n1_ n2_ n3_; (try clear hb); (try clear hb2); (try clear hk); (try clear hi)))
 go_ret
 exact ⟨eR_, bw_ HB⟩
}}}
end Go.Proofs.YtkhhkpjeafknpaaGreatDoor.P
end
