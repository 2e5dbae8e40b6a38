/- Texts of Opt, put together by program. -/
import Derived.Test.YtikjbfjnbhaljaaGreatDoorMOpt2
import Derived.Test.YtikjbfjnbhaljaaGreatDoorMOpt3
import Derived.Test.YtikjbfjnbhaljaaGreatDoorMOpt5

section
namespace Go.Proofs.YtikjbfjnbhaljaaGreatDoor.P
open Go.RowKit Go.Proofs.YtikjbfjnbhaljaaGreatDoorW.PrintWords Go.Proofs.YtikjbfjnbhaljaaGreatDoorW.PrintLast Go.Proofs.YtikjbfjnbhaljaaGreatDoorW.PrintMore Go.Proofs.YtikjbfjnbhaljaaGreatDoorM
attribute [local go_sem] max2_int min2_int max_two min_two max_three min_three max_four min_four
set_option linter.unusedVariables false
set_option linter.unusedSimpArgs false
def laws_eqItem.f (k : Nat) (a0_0 : ByteArray) (a0_1 : ByteArray) (l0_2 : List ByteArray) (a0_3 : ByteArray) (l0_4 : List (S57)) (a1_0 : ByteArray) (a1_1 : ByteArray) (l1_2 : List ByteArray) (a1_3 : ByteArray) (l1_4 : List (S57)) : Option (Bool) := if a0_0.toList = a1_0.toList then (if a0_1.toList = a1_1.toList then ((laws_eqStringS.f k l0_2 l1_2).bind fun t484 => (if t484 = true then (if a0_3.toList = a1_3.toList then ((laws_eqEntryS.f k l0_4 l1_4).bind fun t485 => (if t485 = true then (some true) else (some false))) else (some false)) else (some false))) else (some false)) else (some false)
set_option maxHeartbeats 8000000 in
set_option maxRecDepth 100000 in
theorem laws_eqItem.calls (k : Nat) (a0_0 : ByteArray) (a0_1 : ByteArray) (A0_2 : Option Addr) (c0_2 : Nat) (l0_2 : List ByteArray) (a0_3 : ByteArray) (A0_4 : Option Addr) (c0_4 : Nat) (l0_4 : List (S57)) (a1_0 : ByteArray) (a1_1 : ByteArray) (A1_2 : Option Addr) (c1_2 : Nat) (l1_2 : List ByteArray) (a1_3 : ByteArray) (A1_4 : Option Addr) (c1_4 : Nat) (l1_4 : List (S57)) (r : Bool) (w : World) (hr0_2 : Kd.C Kd.string w A0_2 l0_2.length l0_2) (hc0_2 : l0_2.length ≤ c0_2) (hr0_4 : Kd.C k57 w A0_4 l0_4.length l0_4) (hc0_4 : l0_4.length ≤ c0_4) (hr1_2 : Kd.C Kd.string w A1_2 l1_2.length l1_2) (hc1_2 : l1_2.length ≤ c1_2) (hr1_4 : Kd.C k57 w A1_4 l1_4.length l1_4) (hc1_4 : l1_4.length ≤ c1_4) (h : laws_eqItem.f k a0_0 a0_1 l0_2 a0_3 l0_4 a1_0 a1_1 l1_2 a1_3 l1_4 = some r) :
 Calls Tryz.prog 36 #[.agg #[.string a0_0, .string a0_1, .slice A0_2 l0_2.length c0_2, .string a0_3, .slice A0_4 l0_4.length c0_4], .agg #[.string a1_0, .string a1_1, .slice A1_2 l1_2.length c1_2, .string a1_3, .slice A1_4 l1_4.length c1_4]] w fun e w' => e = .returned (.bool r) ∧ Below w.heap.size w w' := by
 have hu55 := Tryz.underlying55
 have HR0_2 := Aside0.mk hr0_2
 have HC0_2 := Aside0.mk hc0_2
 clear hr0_2 hc0_2
 have HR0_4 := Aside0.mk hr0_4
 have HC0_4 := Aside0.mk hc0_4
 clear hr0_4 hc0_4
 have HR1_2 := Aside0.mk hr1_2
 have HC1_2 := Aside0.mk hc1_2
 clear hr1_2 hc1_2
 have HR1_4 := Aside0.mk hr1_4
 have HC1_4 := Aside0.mk hc1_4
 clear hr1_4 hc1_4
 have HB := Aside0.mk (Below.refl w.heap.size w)
 have H : (if a0_0.toList = a1_0.toList then (if a0_1.toList = a1_1.toList then ((laws_eqStringS.f k l0_2 l1_2).bind fun t484 => (if t484 = true then (if a0_3.toList = a1_3.toList then ((laws_eqEntryS.f k l0_4 l1_4).bind fun t485 => (if t485 = true then (some true) else (some false))) else (some false)) else (some false))) else (some false)) else (some false)) = some r := h
 clear h
 by_cases c3 : a0_0.toList = a1_0.toList
 {
 rw [if_pos c3] at H
 have c3b0 : (a0_0.toList == a1_0.toList) = true := beq_iff_eq.mpr c3
 have c3b1 : (a0_0.toList != a1_0.toList) = false := bne_eq_false_iff_eq.mpr c3
 clear c3
 by_cases c4 : a0_1.toList = a1_1.toList
 {
 rw [if_pos c4] at H
 have c4b0 : (a0_1.toList == a1_1.toList) = true := beq_iff_eq.mpr c4
 have c4b1 : (a0_1.toList != a1_1.toList) = false := bne_eq_false_iff_eq.mpr c4
 clear c4
 replace H := Option.bind_eq_some_iff.mp H
 obtain ⟨t484, A50, H⟩ := H
 have A5 := Aside0.mk A50
 clear A50
 by_cases c6 : t484 = true
 {
 subst c6
 rw [if_pos rfl] at H
 by_cases c7 : a0_3.toList = a1_3.toList
 {
 rw [if_pos c7] at H
 have c7b0 : (a0_3.toList == a1_3.toList) = true := beq_iff_eq.mpr c7
 have c7b1 : (a0_3.toList != a1_3.toList) = false := bne_eq_false_iff_eq.mpr c7
 clear c7
 replace H := Option.bind_eq_some_iff.mp H
 obtain ⟨t485, A80, H⟩ := H
 have A8 := Aside0.mk A80
 clear A80
 by_cases c9 : t485 = true
 {
 subst c9
 rw [if_pos rfl] at H
 obtain rfl := Option.some.inj H
 go_enter Tryz.func36, Tryz.ntmps36
 go_wp2_with (first | ((with_reducible refine gate_dst (N := 2) rfl ?_); refine bE_ 2 #[.string a0_0, .string a0_1, .slice A0_2 l0_2.length c0_2, .string a0_3, .slice A0_4 l0_4.length c0_4] 55 ?_; intro gb482 hg w10 hbox hb; have BK482 := Aside0.mk (hbox); have GW482 := Aside0.mk (ge_ hg (bw_ HB)); have GE482 := Aside0.mk (ge_ hg (bw_ HB)); replace HB := Aside0.mk (below_step (bw_ HB) hb); clear hb hbox hg) | ((with_reducible refine gate_dst (N := 3) rfl ?_); refine bE_ 3 #[.string a1_0, .string a1_1, .slice A1_2 l1_2.length c1_2, .string a1_3, .slice A1_4 l1_4.length c1_4] 55 ?_; intro gb483 hg w11 hbox hb; have BK483 := Aside0.mk (hbox); have GW483 := Aside0.mk (ge_ hg (bw1_ HB GE482)); have GE483 := Aside0.mk (ge_ hg (bw1_ HB GE482)); replace HB := Aside0.mk (below_step (bw1_ HB GE482) hb); have NB482_483 := Aside0.mk ((by rw [hg]; exact Nat.ne_of_lt (blk_lt (bk_ BK482)) : gb482 ≠ gb483)); have NB483_482 := Aside0.mk ((by rw [hg]; exact Nat.ne_of_gt (blk_lt (bk_ BK482)) : gb483 ≠ gb482)); replace BK482 := Aside0.mk (blk_below (bk_ BK482) hb); clear hb hbox hg; have hnb12 := NB482_483.out; have hnc12 := NB483_482.out; have hcz13_0 := cz_ BK482 0 (.string a0_0); have hcz13_1 := cz_ BK482 1 (.string a0_1); have hcz13_2 := cz_ BK482 2 (.slice A0_2 l0_2.length c0_2); have hcz13_3 := cz_ BK482 3 (.string a0_3); have hcz13_4 := cz_ BK482 4 (.slice A0_4 l0_4.length c0_4); have hfz13_0 := blk_frozen BK482.out 0; have hfz13_1 := blk_frozen BK482.out 1; have hfz13_2 := blk_frozen BK482.out 2; have hfz13_3 := blk_frozen BK482.out 3; have hfz13_4 := blk_frozen BK482.out 4; have hcz14_0 := cz_ BK483 0 (.string a1_0); have hcz14_1 := cz_ BK483 1 (.string a1_1); have hcz14_2 := cz_ BK483 2 (.slice A1_2 l1_2.length c1_2); have hcz14_3 := cz_ BK483 3 (.string a1_3); have hcz14_4 := cz_ BK483 4 (.slice A1_4 l1_4.length c1_4); have hfz14_0 := blk_frozen BK483.out 0; have hfz14_1 := blk_frozen BK483.out 1; have hfz14_2 := blk_frozen BK483.out 2; have hfz14_3 := blk_frozen BK483.out 3; have hfz14_4 := blk_frozen BK483.out 4) | ((with_reducible refine gate_callee (f := 15) rfl ?_); refine gL_ (some 19) Tryz.func15 #[.slice A0_2 l0_2.length c0_2, .slice A1_2 l1_2.length c1_2] ?_; (with_reducible refine (laws_eqStringS.calls k _ _ l0_2 _ _ l1_2 true _ ?side1 ?side2 ?side3 ?side4 A5.out).mono ?_); (case side1 => exact cS_ HR0_2 HB); (case side2 => exact HC0_2.out); (case side3 => exact cS_ HR1_2 HB); (case side4 => exact HC1_2.out); rintro e w' ⟨rfl, ⟨nd, rfl⟩⟩; refine ⟨_, rfl, ?_⟩) | ((with_reducible refine gate_callee (f := 23) rfl ?_); refine gL_ (some 30) Tryz.func23 #[.slice A0_4 l0_4.length c0_4, .slice A1_4 l1_4.length c1_4] ?_; (with_reducible refine (laws_eqEntryS.calls k _ _ l0_4 _ _ l1_4 true _ ?side1 ?side2 ?side3 ?side4 A8.out).mono ?_); (case side1 => repeat (first | exact (Kd.C_below HR0_4.out (bw2_ HB GE482 GE483)) | (with_reducible refine Kd.C_alloc ?_ _) | (with_reducible refine Kd.C_drewN ?_ _) | (with_reducible refine Kd.C_drew ?_))); (case side2 => exact HC0_4.out); (case side3 => repeat (first | exact (Kd.C_below HR1_4.out (bw2_ HB GE482 GE483)) | (with_reducible refine Kd.C_alloc ?_ _) | (with_reducible refine Kd.C_drewN ?_ _) | (with_reducible refine Kd.C_drew ?_))); (case side4 => exact HC1_4.out); rintro e w15 ⟨rfl, hb⟩; refine ⟨_, rfl, ?_⟩; replace BK482 := Aside0.mk (blk_below (bk_ BK482) hb); replace BK483 := Aside0.mk (blk_below (bk_ BK483) hb); replace HB := Aside0.mk (below_step (bw2_ HB GE482 GE483) hb); (try clear hb); (try clear hb2); (try clear hk); (try clear hi)))
 go_ret
 exact ⟨eR_, bw2_ HB GE482 GE483⟩}
 {
 replace c9 := Bool.eq_false_iff.mpr c9
 subst c9
 rw [if_neg (show ¬ (false = true) by decide)] at H
 obtain rfl := Option.some.inj H
 go_enter Tryz.func36, Tryz.ntmps36
 go_wp2_with (first | ((with_reducible refine gate_dst (N := 2) rfl ?_); refine bE_ 2 #[.string a0_0, .string a0_1, .slice A0_2 l0_2.length c0_2, .string a0_3, .slice A0_4 l0_4.length c0_4] 55 ?_; intro gb482 hg w16 hbox hb; have BK482 := Aside0.mk (hbox); have GW482 := Aside0.mk (ge_ hg (bw_ HB)); have GE482 := Aside0.mk (ge_ hg (bw_ HB)); replace HB := Aside0.mk (below_step (bw_ HB) hb); clear hb hbox hg) | ((with_reducible refine gate_dst (N := 3) rfl ?_); refine bE_ 3 #[.string a1_0, .string a1_1, .slice A1_2 l1_2.length c1_2, .string a1_3, .slice A1_4 l1_4.length c1_4] 55 ?_; intro gb483 hg w17 hbox hb; have BK483 := Aside0.mk (hbox); have GW483 := Aside0.mk (ge_ hg (bw1_ HB GE482)); have GE483 := Aside0.mk (ge_ hg (bw1_ HB GE482)); replace HB := Aside0.mk (below_step (bw1_ HB GE482) hb); have NB482_483 := Aside0.mk ((by rw [hg]; exact Nat.ne_of_lt (blk_lt (bk_ BK482)) : gb482 ≠ gb483)); have NB483_482 := Aside0.mk ((by rw [hg]; exact Nat.ne_of_gt (blk_lt (bk_ BK482)) : gb483 ≠ gb482)); replace BK482 := Aside0.mk (blk_below (bk_ BK482) hb); clear hb hbox hg; have hnb18 := NB482_483.out; have hnc18 := NB483_482.out; have hcz19_0 := cz_ BK482 0 (.string a0_0); have hcz19_1 := cz_ BK482 1 (.string a0_1); have hcz19_2 := cz_ BK482 2 (.slice A0_2 l0_2.length c0_2); have hcz19_3 := cz_ BK482 3 (.string a0_3); have hcz19_4 := cz_ BK482 4 (.slice A0_4 l0_4.length c0_4); have hfz19_0 := blk_frozen BK482.out 0; have hfz19_1 := blk_frozen BK482.out 1; have hfz19_2 := blk_frozen BK482.out 2; have hfz19_3 := blk_frozen BK482.out 3; have hfz19_4 := blk_frozen BK482.out 4; have hcz20_0 := cz_ BK483 0 (.string a1_0); have hcz20_1 := cz_ BK483 1 (.string a1_1); have hcz20_2 := cz_ BK483 2 (.slice A1_2 l1_2.length c1_2); have hcz20_3 := cz_ BK483 3 (.string a1_3); have hcz20_4 := cz_ BK483 4 (.slice A1_4 l1_4.length c1_4); have hfz20_0 := blk_frozen BK483.out 0; have hfz20_1 := blk_frozen BK483.out 1; have hfz20_2 := blk_frozen BK483.out 2; have hfz20_3 := blk_frozen BK483.out 3; have hfz20_4 := blk_frozen BK483.out 4) | ((with_reducible refine gate_callee (f := 15) rfl ?_); refine gL_ (some 19) Tryz.func15 #[.slice A0_2 l0_2.length c0_2, .slice A1_2 l1_2.length c1_2] ?_; (with_reducible refine (laws_eqStringS.calls k _ _ l0_2 _ _ l1_2 true _ ?side1 ?side2 ?side3 ?side4 A5.out).mono ?_); (case side1 => exact cS_ HR0_2 HB); (case side2 => exact HC0_2.out); (case side3 => exact cS_ HR1_2 HB); (case side4 => exact HC1_2.out); rintro e w' ⟨rfl, ⟨nd, rfl⟩⟩; refine ⟨_, rfl, ?_⟩) | ((with_reducible refine gate_callee (f := 23) rfl ?_); refine gL_ (some 30) Tryz.func23 #[.slice A0_4 l0_4.length c0_4, .slice A1_4 l1_4.length c1_4] ?_; (with_reducible refine (laws_eqEntryS.calls k _ _ l0_4 _ _ l1_4 false _ ?side1 ?side2 ?side3 ?side4 A8.out).mono ?_); (case side1 => repeat (first | exact (Kd.C_below HR0_4.out (bw2_ HB GE482 GE483)) | (with_reducible refine Kd.C_alloc ?_ _) | (with_reducible refine Kd.C_drewN ?_ _) | (with_reducible refine Kd.C_drew ?_))); (case side2 => exact HC0_4.out); (case side3 => repeat (first | exact (Kd.C_below HR1_4.out (bw2_ HB GE482 GE483)) | (with_reducible refine Kd.C_alloc ?_ _) | (with_reducible refine Kd.C_drewN ?_ _) | (with_reducible refine Kd.C_drew ?_))); (case side4 => exact HC1_4.out); rintro e w21 ⟨rfl, hb⟩; refine ⟨_, rfl, ?_⟩; replace BK482 := Aside0.mk (blk_below (bk_ BK482) hb); replace BK483 := Aside0.mk (blk_below (bk_ BK483) hb); replace HB := Aside0.mk (below_step (bw2_ HB GE482 GE483) hb); (try clear hb); (try clear hb2); (try clear hk); (try clear hi)))
 go_ret
 exact ⟨eR_, bw2_ HB GE482 GE483⟩}}
 {
 rw [if_neg c7] at H
 have c7b0 : (a0_3.toList == a1_3.toList) = false := beq_eq_false_iff_ne.mpr c7
 have c7b1 : (a0_3.toList != a1_3.toList) = true := bne_iff_ne.mpr c7
 obtain rfl := Option.some.inj H
 go_enter Tryz.func36, Tryz.ntmps36
 go_wp2_with (first | ((with_reducible refine gate_dst (N := 2) rfl ?_); refine bE_ 2 #[.string a0_0, .string a0_1, .slice A0_2 l0_2.length c0_2, .string a0_3, .slice A0_4 l0_4.length c0_4] 55 ?_; intro gb482 hg w22 hbox hb; have BK482 := Aside0.mk (hbox); have GW482 := Aside0.mk (ge_ hg (bw_ HB)); have GE482 := Aside0.mk (ge_ hg (bw_ HB)); replace HB := Aside0.mk (below_step (bw_ HB) hb); clear hb hbox hg) | ((with_reducible refine gate_dst (N := 3) rfl ?_); refine bE_ 3 #[.string a1_0, .string a1_1, .slice A1_2 l1_2.length c1_2, .string a1_3, .slice A1_4 l1_4.length c1_4] 55 ?_; intro gb483 hg w23 hbox hb; have BK483 := Aside0.mk (hbox); have GW483 := Aside0.mk (ge_ hg (bw1_ HB GE482)); have GE483 := Aside0.mk (ge_ hg (bw1_ HB GE482)); replace HB := Aside0.mk (below_step (bw1_ HB GE482) hb); have NB482_483 := Aside0.mk ((by rw [hg]; exact Nat.ne_of_lt (blk_lt (bk_ BK482)) : gb482 ≠ gb483)); have NB483_482 := Aside0.mk ((by rw [hg]; exact Nat.ne_of_gt (blk_lt (bk_ BK482)) : gb483 ≠ gb482)); replace BK482 := Aside0.mk (blk_below (bk_ BK482) hb); clear hb hbox hg; have hnb24 := NB482_483.out; have hnc24 := NB483_482.out; have hcz25_0 := cz_ BK482 0 (.string a0_0); have hcz25_1 := cz_ BK482 1 (.string a0_1); have hcz25_2 := cz_ BK482 2 (.slice A0_2 l0_2.length c0_2); have hcz25_3 := cz_ BK482 3 (.string a0_3); have hcz25_4 := cz_ BK482 4 (.slice A0_4 l0_4.length c0_4); have hfz25_0 := blk_frozen BK482.out 0; have hfz25_1 := blk_frozen BK482.out 1; have hfz25_2 := blk_frozen BK482.out 2; have hfz25_3 := blk_frozen BK482.out 3; have hfz25_4 := blk_frozen BK482.out 4; have hcz26_0 := cz_ BK483 0 (.string a1_0); have hcz26_1 := cz_ BK483 1 (.string a1_1); have hcz26_2 := cz_ BK483 2 (.slice A1_2 l1_2.length c1_2); have hcz26_3 := cz_ BK483 3 (.string a1_3); have hcz26_4 := cz_ BK483 4 (.slice A1_4 l1_4.length c1_4); have hfz26_0 := blk_frozen BK483.out 0; have hfz26_1 := blk_frozen BK483.out 1; have hfz26_2 := blk_frozen BK483.out 2; have hfz26_3 := blk_frozen BK483.out 3; have hfz26_4 := blk_frozen BK483.out 4) | ((with_reducible refine gate_callee (f := 15) rfl ?_); refine gL_ (some 19) Tryz.func15 #[.slice A0_2 l0_2.length c0_2, .slice A1_2 l1_2.length c1_2] ?_; (with_reducible refine (laws_eqStringS.calls k _ _ l0_2 _ _ l1_2 true _ ?side1 ?side2 ?side3 ?side4 A5.out).mono ?_); (case side1 => exact cS_ HR0_2 HB); (case side2 => exact HC0_2.out); (case side3 => exact cS_ HR1_2 HB); (case side4 => exact HC1_2.out); rintro e w' ⟨rfl, ⟨nd, rfl⟩⟩; refine ⟨_, rfl, ?_⟩))
 go_ret
 exact ⟨eR_, bw2_ HB GE482 GE483⟩}}
 {
 replace c6 := Bool.eq_false_iff.mpr c6
 subst c6
 rw [if_neg (show ¬ (false = true) by decide)] at H
 obtain rfl := Option.some.inj H
 go_enter Tryz.func36, Tryz.ntmps36
 go_wp2_with (first | ((with_reducible refine gate_dst (N := 2) rfl ?_); refine bE_ 2 #[.string a0_0, .string a0_1, .slice A0_2 l0_2.length c0_2, .string a0_3, .slice A0_4 l0_4.length c0_4] 55 ?_; intro gb482 hg w27 hbox hb; have BK482 := Aside0.mk (hbox); have GW482 := Aside0.mk (ge_ hg (bw_ HB)); have GE482 := Aside0.mk (ge_ hg (bw_ HB)); replace HB := Aside0.mk (below_step (bw_ HB) hb); clear hb hbox hg) | ((with_reducible refine gate_dst (N := 3) rfl ?_); refine bE_ 3 #[.string a1_0, .string a1_1, .slice A1_2 l1_2.length c1_2, .string a1_3, .slice A1_4 l1_4.length c1_4] 55 ?_; intro gb483 hg w28 hbox hb; have BK483 := Aside0.mk (hbox); have GW483 := Aside0.mk (ge_ hg (bw1_ HB GE482)); have GE483 := Aside0.mk (ge_ hg (bw1_ HB GE482)); replace HB := Aside0.mk (below_step (bw1_ HB GE482) hb); have NB482_483 := Aside0.mk ((by rw [hg]; exact Nat.ne_of_lt (blk_lt (bk_ BK482)) : gb482 ≠ gb483)); have NB483_482 := Aside0.mk ((by rw [hg]; exact Nat.ne_of_gt (blk_lt (bk_ BK482)) : gb483 ≠ gb482)); replace BK482 := Aside0.mk (blk_below (bk_ BK482) hb); clear hb hbox hg; have hnb29 := NB482_483.out; have hnc29 := NB483_482.out; have hcz30_0 := cz_ BK482 0 (.string a0_0); have hcz30_1 := cz_ BK482 1 (.string a0_1); have hcz30_2 := cz_ BK482 2 (.slice A0_2 l0_2.length c0_2); have hcz30_3 := cz_ BK482 3 (.string a0_3); have hcz30_4 := cz_ BK482 4 (.slice A0_4 l0_4.length c0_4); have hfz30_0 := blk_frozen BK482.out 0; have hfz30_1 := blk_frozen BK482.out 1; have hfz30_2 := blk_frozen BK482.out 2; have hfz30_3 := blk_frozen BK482.out 3; have hfz30_4 := blk_frozen BK482.out 4; have hcz31_0 := cz_ BK483 0 (.string a1_0); have hcz31_1 := cz_ BK483 1 (.string a1_1); have hcz31_2 := cz_ BK483 2 (.slice A1_2 l1_2.length c1_2); have hcz31_3 := cz_ BK483 3 (.string a1_3); have hcz31_4 := cz_ BK483 4 (.slice A1_4 l1_4.length c1_4); have hfz31_0 := blk_frozen BK483.out 0; have hfz31_1 := blk_frozen BK483.out 1; have hfz31_2 := blk_frozen BK483.out 2; have hfz31_3 := blk_frozen BK483.out 3; have hfz31_4 := blk_frozen BK483.out 4) | ((with_reducible refine gate_callee (f := 15) rfl ?_); refine gL_ (some 19) Tryz.func15 #[.slice A0_2 l0_2.length c0_2, .slice A1_2 l1_2.length c1_2] ?_; (with_reducible refine (laws_eqStringS.calls k _ _ l0_2 _ _ l1_2 false _ ?side1 ?side2 ?side3 ?side4 A5.out).mono ?_); (case side1 => exact cS_ HR0_2 HB); (case side2 => exact HC0_2.out); (case side3 => exact cS_ HR1_2 HB); (case side4 => exact HC1_2.out); rintro e w' ⟨rfl, ⟨nd, rfl⟩⟩; refine ⟨_, rfl, ?_⟩))
 go_ret
 exact ⟨eR_, bw2_ HB GE482 GE483⟩}}
 {
 rw [if_neg c4] at H
 have c4b0 : (a0_1.toList == a1_1.toList) = false := beq_eq_false_iff_ne.mpr c4
 have c4b1 : (a0_1.toList != a1_1.toList) = true := bne_iff_ne.mpr c4
 obtain rfl := Option.some.inj H
 go_enter Tryz.func36, Tryz.ntmps36
 go_wp2_with (first | ((with_reducible refine gate_dst (N := 2) rfl ?_); refine bE_ 2 #[.string a0_0, .string a0_1, .slice A0_2 l0_2.length c0_2, .string a0_3, .slice A0_4 l0_4.length c0_4] 55 ?_; intro gb482 hg w32 hbox hb; have BK482 := Aside0.mk (hbox); have GW482 := Aside0.mk (ge_ hg (bw_ HB)); have GE482 := Aside0.mk (ge_ hg (bw_ HB)); replace HB := Aside0.mk (below_step (bw_ HB) hb); clear hb hbox hg) | ((with_reducible refine gate_dst (N := 3) rfl ?_); refine bE_ 3 #[.string a1_0, .string a1_1, .slice A1_2 l1_2.length c1_2, .string a1_3, .slice A1_4 l1_4.length c1_4] 55 ?_; intro gb483 hg w33 hbox hb; have BK483 := Aside0.mk (hbox); have GW483 := Aside0.mk (ge_ hg (bw1_ HB GE482)); have GE483 := Aside0.mk (ge_ hg (bw1_ HB GE482)); replace HB := Aside0.mk (below_step (bw1_ HB GE482) hb); have NB482_483 := Aside0.mk ((by rw [hg]; exact Nat.ne_of_lt (blk_lt (bk_ BK482)) : gb482 ≠ gb483)); have NB483_482 := Aside0.mk ((by rw [hg]; exact Nat.ne_of_gt (blk_lt (bk_ BK482)) : gb483 ≠ gb482)); replace BK482 := Aside0.mk (blk_below (bk_ BK482) hb); clear hb hbox hg; have hnb34 := NB482_483.out; have hnc34 := NB483_482.out; have hcz35_0 := cz_ BK482 0 (.string a0_0); have hcz35_1 := cz_ BK482 1 (.string a0_1); have hcz35_2 := cz_ BK482 2 (.slice A0_2 l0_2.length c0_2); have hcz35_3 := cz_ BK482 3 (.string a0_3); have hcz35_4 := cz_ BK482 4 (.slice A0_4 l0_4.length c0_4); have hfz35_0 := blk_frozen BK482.out 0; have hfz35_1 := blk_frozen BK482.out 1; have hfz35_2 := blk_frozen BK482.out 2; have hfz35_3 := blk_frozen BK482.out 3; have hfz35_4 := blk_frozen BK482.out 4; have hcz36_0 := cz_ BK483 0 (.string a1_0); have hcz36_1 := cz_ BK483 1 (.string a1_1); have hcz36_2 := cz_ BK483 2 (.slice A1_2 l1_2.length c1_2); have hcz36_3 := cz_ BK483 3 (.string a1_3); have hcz36_4 := cz_ BK483 4 (.slice A1_4 l1_4.length c1_4); have hfz36_0 := blk_frozen BK483.out 0; have hfz36_1 := blk_frozen BK483.out 1; have hfz36_2 := blk_frozen BK483.out 2; have hfz36_3 := blk_frozen BK483.out 3; have hfz36_4 := blk_frozen BK483.out 4))
 go_ret
 exact ⟨eR_, bw2_ HB GE482 GE483⟩}}
 {
 rw [if_neg c3] at H
 have c3b0 : (a0_0.toList == a1_0.toList) = false := beq_eq_false_iff_ne.mpr c3
 have c3b1 : (a0_0.toList != a1_0.toList) = true := bne_iff_ne.mpr c3
 obtain rfl := Option.some.inj H
 go_enter Tryz.func36, Tryz.ntmps36
 go_wp2_with (first | ((with_reducible refine gate_dst (N := 2) rfl ?_); refine bE_ 2 #[.string a0_0, .string a0_1, .slice A0_2 l0_2.length c0_2, .string a0_3, .slice A0_4 l0_4.length c0_4] 55 ?_; intro gb482 hg w37 hbox hb; have BK482 := Aside0.mk (hbox); have GW482 := Aside0.mk (ge_ hg (bw_ HB)); have GE482 := Aside0.mk (ge_ hg (bw_ HB)); replace HB := Aside0.mk (below_step (bw_ HB) hb); clear hb hbox hg) | ((with_reducible refine gate_dst (N := 3) rfl ?_); refine bE_ 3 #[.string a1_0, .string a1_1, .slice A1_2 l1_2.length c1_2, .string a1_3, .slice A1_4 l1_4.length c1_4] 55 ?_; intro gb483 hg w38 hbox hb; have BK483 := Aside0.mk (hbox); have GW483 := Aside0.mk (ge_ hg (bw1_ HB GE482)); have GE483 := Aside0.mk (ge_ hg (bw1_ HB GE482)); replace HB := Aside0.mk (below_step (bw1_ HB GE482) hb); have NB482_483 := Aside0.mk ((by rw [hg]; exact Nat.ne_of_lt (blk_lt (bk_ BK482)) : gb482 ≠ gb483)); have NB483_482 := Aside0.mk ((by rw [hg]; exact Nat.ne_of_gt (blk_lt (bk_ BK482)) : gb483 ≠ gb482)); replace BK482 := Aside0.mk (blk_below (bk_ BK482) hb); clear hb hbox hg; have hnb39 := NB482_483.out; have hnc39 := NB483_482.out; have hcz40_0 := cz_ BK482 0 (.string a0_0); have hcz40_1 := cz_ BK482 1 (.string a0_1); have hcz40_2 := cz_ BK482 2 (.slice A0_2 l0_2.length c0_2); have hcz40_3 := cz_ BK482 3 (.string a0_3); have hcz40_4 := cz_ BK482 4 (.slice A0_4 l0_4.length c0_4); have hfz40_0 := blk_frozen BK482.out 0; have hfz40_1 := blk_frozen BK482.out 1; have hfz40_2 := blk_frozen BK482.out 2; have hfz40_3 := blk_frozen BK482.out 3; have hfz40_4 := blk_frozen BK482.out 4; have hcz41_0 := cz_ BK483 0 (.string a1_0); have hcz41_1 := cz_ BK483 1 (.string a1_1); have hcz41_2 := cz_ BK483 2 (.slice A1_2 l1_2.length c1_2); have hcz41_3 := cz_ BK483 3 (.string a1_3); have hcz41_4 := cz_ BK483 4 (.slice A1_4 l1_4.length c1_4); have hfz41_0 := blk_frozen BK483.out 0; have hfz41_1 := blk_frozen BK483.out 1; have hfz41_2 := blk_frozen BK483.out 2; have hfz41_3 := blk_frozen BK483.out 3; have hfz41_4 := blk_frozen BK483.out 4))
 go_ret
 exact ⟨eR_, bw2_ HB GE482 GE483⟩
}
end Go.Proofs.YtikjbfjnbhaljaaGreatDoor.P
end

section
namespace Go.Proofs.YtikjbfjnbhaljaaGreatDoor.P
open Go.RowKit Go.Proofs.YtikjbfjnbhaljaaGreatDoorW.PrintWords Go.Proofs.YtikjbfjnbhaljaaGreatDoorW.PrintLast Go.Proofs.YtikjbfjnbhaljaaGreatDoorW.PrintMore Go.Proofs.YtikjbfjnbhaljaaGreatDoorM
attribute [local go_sem] max2_int min2_int max_two min_two max_three min_three max_four min_four
set_option linter.unusedVariables false
set_option linter.unusedSimpArgs false
def laws_eqItemS.l0 : Nat → List (S55) → List (S55) → Int → Option (Bool)
 | 0, _, _, _ => none
 | k + 1, x0, x1, x5 => if x5 < (x0.length : Int) then (if 0 ≤ x5 then (if x5 < (x1.length : Int) then ((laws_eqItem.f k ((rd_T55 x0 x5).f0) ((rd_T55 x0 x5).f1) ((rd_T55 x0 x5).f2) ((rd_T55 x0 x5).f3) ((rd_T55 x0 x5).f4) ((rd_T55 x1 x5).f0) ((rd_T55 x1 x5).f1) ((rd_T55 x1 x5).f2) ((rd_T55 x1 x5).f3) ((rd_T55 x1 x5).f4)).bind fun t488 => (if t488 = true then (laws_eqItemS.l0 k x0 x1 (wrap64 (x5 + 1))) else (some false))) else (none)) else (none)) else (some true)
def laws_eqItemS.f (k : Nat) (l0 : List (S55)) (l1 : List (S55)) : Option (Bool) := if (l0.length : Int) = (l1.length : Int) then (laws_eqItemS.l0 k l0 l1 0) else (some false)
def laws_eqItemS.T6 : Bool × List (List Nat × List Nat) := (true, [([], []), ([], []), ([0, 1], [0, 1]), ([2], [2]), ([], []), ([], []), ([4, 5], [4, 5]), ([6], [6]), ([3, 7], [3, 7]), ([8], [8])])
def laws_eqItemS.B6 : List Nat := [0, 0, 3, 7, 0, 0, 48, 112, 255, 511]
theorem laws_eqItemS.tab6 : rtab .any (opsOf Tryz.f12 6) = laws_eqItemS.T6 := by kernel_rfl
theorem laws_eqItemS.bits6 : waitsOk laws_eqItemS.T6.2 laws_eqItemS.B6 = true := by kernel_rfl
set_option maxHeartbeats 8000000 in
set_option maxRecDepth 100000 in
theorem laws_eqItemS.calls (k : Nat) (A0 : Option Addr) (c0 : Nat) (l0 : List (S55)) (A1 : Option Addr) (c1 : Nat) (l1 : List (S55)) (r : Bool) (w : World) (hr0 : Kd.C k55 w A0 l0.length l0) (hc0 : l0.length ≤ c0) (hr1 : Kd.C k55 w A1 l1.length l1) (hc1 : l1.length ≤ c1) (h : laws_eqItemS.f k l0 l1 = some r) :
 Calls Tryz.prog 12 #[.slice A0 l0.length c0, .slice A1 l1.length c1] w fun e w' => e = .returned (.bool r) ∧ Below w.heap.size w w' := by
 have hu55 := Tryz.underlying55
 have HR0 := Aside0.mk hr0
 have HC0 := Aside0.mk hc0
 clear hr0 hc0
 have HR1 := Aside0.mk hr1
 have HC1 := Aside0.mk hc1
 clear hr1 hc1
 have HB := Aside0.mk (Below.refl w.heap.size w)
 have H : (if (l0.length : Int) = (l1.length : Int) then (laws_eqItemS.l0 k l0 l1 0) else (some false)) = some r := h
 clear h
 by_cases c3 : (l0.length : Int) = (l1.length : Int)
 {
 rw [if_pos c3] at H
 have c3b0 : ((l0.length : Int) == (l1.length : Int)) = true := beq_iff_eq.mpr c3
 have c3b1 : ((l0.length : Int) != (l1.length : Int)) = false := bne_eq_false_iff_eq.mpr c3
 have c3b2 : (l0.length == l1.length) = true := by first | simpa using c3 | (simp at c3 ⊢; omega)
 clear c3
 have H' := Aside0.mk H
 clear H
 go_enter Tryz.func12, Tryz.ntmps12
 go_wp2
 go_loopg [5] k (fun kq v5 w' => ∃ (x5_1 : Int), v5 = .int .i64 x5_1 ∧ Aside0 (laws_eqItemS.l0 kq l0 l1 x5_1 = some r) ∧ Aside0 (kq ≤ k) ∧ Aside0 (Below w.heap.size w w'))
 case atStart => exact ⟨(0), (by first | rfl | (simp; done) | (simp [*]; done)), H', ⟨Nat.le_refl _⟩, ⟨bw_ HB⟩⟩
 case round =>
  clear H'
  try clear c1
  try clear p2
  try clear c3
  try clear c3b0
  try clear c3b1
  try clear c3b2
  obtain ⟨x5_1, rfl, HA, HK1, HB⟩ := hrel
  cases gk with
  | zero => exact absurd HA.out (by simp [laws_eqItemS.l0])
  | succ k1 =>
   have H := HA.out
   clear HA
   simp only [laws_eqItemS.l0] at H
   by_cases c4 : x5_1 < (l0.length : Int)
   {
   rw [if_pos c4] at H
   have c4b0 := decide_eq_true c4
   clear c4
   by_cases c5 : 0 ≤ x5_1
   {
   rw [if_pos c5] at H
   have c5b0 := decide_eq_true c5
   clear c5
   by_cases c6 : x5_1 < (l1.length : Int)
   {
   rw [if_pos c6] at H
   have c6b0 := decide_eq_true c6
   clear c6
   replace H := Option.bind_eq_some_iff.mp H
   obtain ⟨t488, A70, H⟩ := H
   have A7 := Aside0.mk A70
   clear A70
   by_cases c8 : t488 = true
   {
   subst c8
   rw [if_pos rfl] at H
   have H' := Aside0.mk H
   clear H
   try go_wp2
   replace HB := Aside0.mk (below_drew1 HB.out)
   have p486 : 0 ≤ (x5_1 : Int) := dA_
   have q486 : x5_1 < (l0.length : Int) := dA_
   obtain ⟨ad486, A486_2, c486_2, A486_4, c486_4, e486, hx486_0, hx486_1, hx486_2, hx486_3, hx486_4, hl486_2, hi486_2, hl486_4, hi486_4⟩ := at_T55 HR0.out x5_1 p486 q486
   have hw486_4 := hx486_4
   have hw486_3 := hx486_3
   have hw486_2 := hx486_2
   have hw486_1 := hx486_1
   have hw486_0 := hx486_0
   cases e486
   replace hx486_0 := hX_ HB hx486_0
   replace hx486_1 := hX_ HB hx486_1
   replace hx486_2 := hX_ HB hx486_2
   replace hx486_3 := hX_ HB hx486_3
   replace hx486_4 := hX_ HB hx486_4
   have HR486_2 := Aside0.mk hi486_2
   have HC486_2 := Aside0.mk hl486_2
   clear hi486_2 hl486_2
   have HR486_4 := Aside0.mk hi486_4
   have HC486_4 := Aside0.mk hl486_4
   clear hi486_4 hl486_4
   replace p486 := eq_true p486
   replace q486 := eq_true q486
   have p487 : 0 ≤ (x5_1 : Int) := dA_
   have q487 : x5_1 < (l1.length : Int) := dA_
   obtain ⟨ad487, A487_2, c487_2, A487_4, c487_4, e487, hx487_0, hx487_1, hx487_2, hx487_3, hx487_4, hl487_2, hi487_2, hl487_4, hi487_4⟩ := at_T55 HR1.out x5_1 p487 q487
   have hw487_4 := hx487_4
   have hw487_3 := hx487_3
   have hw487_2 := hx487_2
   have hw487_1 := hx487_1
   have hw487_0 := hx487_0
   cases e487
   replace hx487_0 := hX_ HB hx487_0
   replace hx487_1 := hX_ HB hx487_1
   replace hx487_2 := hX_ HB hx487_2
   replace hx487_3 := hX_ HB hx487_3
   replace hx487_4 := hX_ HB hx487_4
   have HR487_2 := Aside0.mk hi487_2
   have HC487_2 := Aside0.mk hl487_2
   clear hi487_2 hl487_2
   have HR487_4 := Aside0.mk hi487_4
   have HC487_4 := Aside0.mk hl487_4
   clear hi487_4 hl487_4
   replace p487 := eq_true p487
   replace q487 := eq_true q487
   refine start_ (n := 10) (S := fun w' => w'.cell? (ad486.add ((x5_1).toNat * 5)) = some (.string ((rd_T55 l0 x5_1).f0)) ∧ w'.cell? ⟨(ad486.add ((x5_1).toNat * 5)).block, (ad486.add ((x5_1).toNat * 5)).off + 1, none⟩ = some (.string ((rd_T55 l0 x5_1).f1)) ∧ w'.cell? ⟨(ad486.add ((x5_1).toNat * 5)).block, (ad486.add ((x5_1).toNat * 5)).off + 2, none⟩ = some (.slice A486_2 ((rd_T55 l0 x5_1).f2).length c486_2) ∧ w'.cell? ⟨(ad486.add ((x5_1).toNat * 5)).block, (ad486.add ((x5_1).toNat * 5)).off + 3, none⟩ = some (.string ((rd_T55 l0 x5_1).f3)) ∧ w'.cell? ⟨(ad486.add ((x5_1).toNat * 5)).block, (ad486.add ((x5_1).toNat * 5)).off + 4, none⟩ = some (.slice A486_4 ((rd_T55 l0 x5_1).f4).length c486_4) ∧ w'.cell? (ad487.add ((x5_1).toNat * 5)) = some (.string ((rd_T55 l1 x5_1).f0)) ∧ w'.cell? ⟨(ad487.add ((x5_1).toNat * 5)).block, (ad487.add ((x5_1).toNat * 5)).off + 1, none⟩ = some (.string ((rd_T55 l1 x5_1).f1)) ∧ w'.cell? ⟨(ad487.add ((x5_1).toNat * 5)).block, (ad487.add ((x5_1).toNat * 5)).off + 2, none⟩ = some (.slice A487_2 ((rd_T55 l1 x5_1).f2).length c487_2) ∧ w'.cell? ⟨(ad487.add ((x5_1).toNat * 5)).block, (ad487.add ((x5_1).toNat * 5)).off + 3, none⟩ = some (.string ((rd_T55 l1 x5_1).f3)) ∧ w'.cell? ⟨(ad487.add ((x5_1).toNat * 5)).block, (ad487.add ((x5_1).toNat * 5)).off + 4, none⟩ = some (.slice A487_4 ((rd_T55 l1 x5_1).f4).length c487_4)) (ds := []) (bs_ 10 0) (by kernel_rfl) rfl (by kernel_rfl) ⟨((HB.out.cell (World.block_lt_of_cell? w _ hw486_0)).trans hw486_0), ((HB.out.cell (World.block_lt_of_cell? w _ hw486_1)).trans hw486_1), ((HB.out.cell (World.block_lt_of_cell? w _ hw486_2)).trans hw486_2), ((HB.out.cell (World.block_lt_of_cell? w _ hw486_3)).trans hw486_3), ((HB.out.cell (World.block_lt_of_cell? w _ hw486_4)).trans hw486_4), ((HB.out.cell (World.block_lt_of_cell? w _ hw487_0)).trans hw487_0), ((HB.out.cell (World.block_lt_of_cell? w _ hw487_1)).trans hw487_1), ((HB.out.cell (World.block_lt_of_cell? w _ hw487_2)).trans hw487_2), ((HB.out.cell (World.block_lt_of_cell? w _ hw487_3)).trans hw487_3), ((HB.out.cell (World.block_lt_of_cell? w _ hw487_4)).trans hw487_4)⟩ (fun hHeld => ?_); refine with_tabW laws_eqItemS.tab6 laws_eqItemS.bits6 (fun HT_ HW_ => ?_)
   generalize wr.drew = w9 at HB HR486_2 HR486_4 HR487_2 HR487_4 hx486_0 hx486_1 hx486_2 hx486_3 hx486_4 hx487_0 hx487_1 hx487_2 hx487_3 hx487_4 hHeld ⊢
   refine pS_ 0 ?_
   refine pS_ 1 ?_
   refine pS_ 2 ?_
   refine pS_ 4 ?_
   refine pS_ 5 ?_
   refine pS_ 6 ?_
   refine t10_ 3 hHeld ?_
   refine t10_ 7 hHeld ?_
   refine oS_ 8 (fun K hK => ?_)
   refine gS_ Tryz.func36 #[.agg #[.string ((rd_T55 l0 x5_1).f0), .string ((rd_T55 l0 x5_1).f1), .slice A486_2 ((rd_T55 l0 x5_1).f2).length c486_2, .string ((rd_T55 l0 x5_1).f3), .slice A486_4 ((rd_T55 l0 x5_1).f4).length c486_4], .agg #[.string ((rd_T55 l1 x5_1).f0), .string ((rd_T55 l1 x5_1).f1), .slice A487_2 ((rd_T55 l1 x5_1).f2).length c487_2, .string ((rd_T55 l1 x5_1).f3), .slice A487_4 ((rd_T55 l1 x5_1).f4).length c487_4]] ?_
   with_reducible refine (laws_eqItem.calls k1 ((rd_T55 l0 x5_1).f0) ((rd_T55 l0 x5_1).f1) _ _ ((rd_T55 l0 x5_1).f2) ((rd_T55 l0 x5_1).f3) _ _ ((rd_T55 l0 x5_1).f4) ((rd_T55 l1 x5_1).f0) ((rd_T55 l1 x5_1).f1) _ _ ((rd_T55 l1 x5_1).f2) ((rd_T55 l1 x5_1).f3) _ _ ((rd_T55 l1 x5_1).f4) true _ ?side1 ?side2 ?side3 ?side4 ?side5 ?side6 ?side7 ?side8 A7.out).mono ?_
   (case side1 => exact cS_ HR486_2 HB)
   (case side2 => exact HC486_2.out)
   (case side3 => exact cS_ HR486_4 HB)
   (case side4 => exact HC486_4.out)
   (case side5 => exact cS_ HR487_2 HB)
   (case side6 => exact HC487_2.out)
   (case side7 => exact cS_ HR487_4 HB)
   (case side8 => exact HC487_4.out)
   rintro e w10 ⟨rfl, hb⟩
   refine ⟨_, rfl, ?_⟩
   replace HB := Aside0.mk (below_step (bw_ HB) hb)
   (try clear hb)
   (try clear hb2)
   (try clear hk)
   (try clear hi)
   refine hK.out _ _ ⟨((HB.out.cell (World.block_lt_of_cell? w _ hw486_0)).trans hw486_0), ((HB.out.cell (World.block_lt_of_cell? w _ hw486_1)).trans hw486_1), ((HB.out.cell (World.block_lt_of_cell? w _ hw486_2)).trans hw486_2), ((HB.out.cell (World.block_lt_of_cell? w _ hw486_3)).trans hw486_3), ((HB.out.cell (World.block_lt_of_cell? w _ hw486_4)).trans hw486_4), ((HB.out.cell (World.block_lt_of_cell? w _ hw487_0)).trans hw487_0), ((HB.out.cell (World.block_lt_of_cell? w _ hw487_1)).trans hw487_1), ((HB.out.cell (World.block_lt_of_cell? w _ hw487_2)).trans hw487_2), ((HB.out.cell (World.block_lt_of_cell? w _ hw487_3)).trans hw487_3), ((HB.out.cell (World.block_lt_of_cell? w _ hw487_4)).trans hw487_4)⟩ (fun hHeld => ?_)
   clear hK K
   refine nS_ 25 ?_
   refine pS_ 9 ?_
   refine done_ (done_of HT_.out (by kernel_rfl)) ?_
   try go_wp2
   go_roundg k1
   case measure => have := HK1.out; omega
   case rel => exact ⟨(wrap64 (x5_1 + 1)), (by first | rfl | (simp; done) | (simp [*]; done)), H', ⟨by have := HK1.out; omega⟩, ⟨bw_ HB⟩⟩}
   {
   replace c8 := Bool.eq_false_iff.mpr c8
   subst c8
   rw [if_neg (show ¬ (false = true) by decide)] at H
   obtain rfl := Option.some.inj H
   try go_wp2
   replace HB := Aside0.mk (below_drew1 HB.out)
   have p486 : 0 ≤ (x5_1 : Int) := dA_
   have q486 : x5_1 < (l0.length : Int) := dA_
   obtain ⟨ad486, A486_2, c486_2, A486_4, c486_4, e486, hx486_0, hx486_1, hx486_2, hx486_3, hx486_4, hl486_2, hi486_2, hl486_4, hi486_4⟩ := at_T55 HR0.out x5_1 p486 q486
   have hw486_4 := hx486_4
   have hw486_3 := hx486_3
   have hw486_2 := hx486_2
   have hw486_1 := hx486_1
   have hw486_0 := hx486_0
   cases e486
   replace hx486_0 := hX_ HB hx486_0
   replace hx486_1 := hX_ HB hx486_1
   replace hx486_2 := hX_ HB hx486_2
   replace hx486_3 := hX_ HB hx486_3
   replace hx486_4 := hX_ HB hx486_4
   have HR486_2 := Aside0.mk hi486_2
   have HC486_2 := Aside0.mk hl486_2
   clear hi486_2 hl486_2
   have HR486_4 := Aside0.mk hi486_4
   have HC486_4 := Aside0.mk hl486_4
   clear hi486_4 hl486_4
   replace p486 := eq_true p486
   replace q486 := eq_true q486
   have p487 : 0 ≤ (x5_1 : Int) := dA_
   have q487 : x5_1 < (l1.length : Int) := dA_
   obtain ⟨ad487, A487_2, c487_2, A487_4, c487_4, e487, hx487_0, hx487_1, hx487_2, hx487_3, hx487_4, hl487_2, hi487_2, hl487_4, hi487_4⟩ := at_T55 HR1.out x5_1 p487 q487
   have hw487_4 := hx487_4
   have hw487_3 := hx487_3
   have hw487_2 := hx487_2
   have hw487_1 := hx487_1
   have hw487_0 := hx487_0
   cases e487
   replace hx487_0 := hX_ HB hx487_0
   replace hx487_1 := hX_ HB hx487_1
   replace hx487_2 := hX_ HB hx487_2
   replace hx487_3 := hX_ HB hx487_3
   replace hx487_4 := hX_ HB hx487_4
   have HR487_2 := Aside0.mk hi487_2
   have HC487_2 := Aside0.mk hl487_2
   clear hi487_2 hl487_2
   have HR487_4 := Aside0.mk hi487_4
   have HC487_4 := Aside0.mk hl487_4
   clear hi487_4 hl487_4
   replace p487 := eq_true p487
   replace q487 := eq_true q487
   refine start_ (n := 10) (S := fun w' => w'.cell? (ad486.add ((x5_1).toNat * 5)) = some (.string ((rd_T55 l0 x5_1).f0)) ∧ w'.cell? ⟨(ad486.add ((x5_1).toNat * 5)).block, (ad486.add ((x5_1).toNat * 5)).off + 1, none⟩ = some (.string ((rd_T55 l0 x5_1).f1)) ∧ w'.cell? ⟨(ad486.add ((x5_1).toNat * 5)).block, (ad486.add ((x5_1).toNat * 5)).off + 2, none⟩ = some (.slice A486_2 ((rd_T55 l0 x5_1).f2).length c486_2) ∧ w'.cell? ⟨(ad486.add ((x5_1).toNat * 5)).block, (ad486.add ((x5_1).toNat * 5)).off + 3, none⟩ = some (.string ((rd_T55 l0 x5_1).f3)) ∧ w'.cell? ⟨(ad486.add ((x5_1).toNat * 5)).block, (ad486.add ((x5_1).toNat * 5)).off + 4, none⟩ = some (.slice A486_4 ((rd_T55 l0 x5_1).f4).length c486_4) ∧ w'.cell? (ad487.add ((x5_1).toNat * 5)) = some (.string ((rd_T55 l1 x5_1).f0)) ∧ w'.cell? ⟨(ad487.add ((x5_1).toNat * 5)).block, (ad487.add ((x5_1).toNat * 5)).off + 1, none⟩ = some (.string ((rd_T55 l1 x5_1).f1)) ∧ w'.cell? ⟨(ad487.add ((x5_1).toNat * 5)).block, (ad487.add ((x5_1).toNat * 5)).off + 2, none⟩ = some (.slice A487_2 ((rd_T55 l1 x5_1).f2).length c487_2) ∧ w'.cell? ⟨(ad487.add ((x5_1).toNat * 5)).block, (ad487.add ((x5_1).toNat * 5)).off + 3, none⟩ = some (.string ((rd_T55 l1 x5_1).f3)) ∧ w'.cell? ⟨(ad487.add ((x5_1).toNat * 5)).block, (ad487.add ((x5_1).toNat * 5)).off + 4, none⟩ = some (.slice A487_4 ((rd_T55 l1 x5_1).f4).length c487_4)) (ds := []) (bs_ 10 0) (by kernel_rfl) rfl (by kernel_rfl) ⟨((HB.out.cell (World.block_lt_of_cell? w _ hw486_0)).trans hw486_0), ((HB.out.cell (World.block_lt_of_cell? w _ hw486_1)).trans hw486_1), ((HB.out.cell (World.block_lt_of_cell? w _ hw486_2)).trans hw486_2), ((HB.out.cell (World.block_lt_of_cell? w _ hw486_3)).trans hw486_3), ((HB.out.cell (World.block_lt_of_cell? w _ hw486_4)).trans hw486_4), ((HB.out.cell (World.block_lt_of_cell? w _ hw487_0)).trans hw487_0), ((HB.out.cell (World.block_lt_of_cell? w _ hw487_1)).trans hw487_1), ((HB.out.cell (World.block_lt_of_cell? w _ hw487_2)).trans hw487_2), ((HB.out.cell (World.block_lt_of_cell? w _ hw487_3)).trans hw487_3), ((HB.out.cell (World.block_lt_of_cell? w _ hw487_4)).trans hw487_4)⟩ (fun hHeld => ?_); refine with_tabW laws_eqItemS.tab6 laws_eqItemS.bits6 (fun HT_ HW_ => ?_)
   generalize wr.drew = w11 at HB HR486_2 HR486_4 HR487_2 HR487_4 hx486_0 hx486_1 hx486_2 hx486_3 hx486_4 hx487_0 hx487_1 hx487_2 hx487_3 hx487_4 hHeld ⊢
   refine pS_ 0 ?_
   refine pS_ 1 ?_
   refine pS_ 2 ?_
   refine pS_ 4 ?_
   refine pS_ 5 ?_
   refine pS_ 6 ?_
   refine t10_ 3 hHeld ?_
   refine t10_ 7 hHeld ?_
   refine oS_ 8 (fun K hK => ?_)
   refine gS_ Tryz.func36 #[.agg #[.string ((rd_T55 l0 x5_1).f0), .string ((rd_T55 l0 x5_1).f1), .slice A486_2 ((rd_T55 l0 x5_1).f2).length c486_2, .string ((rd_T55 l0 x5_1).f3), .slice A486_4 ((rd_T55 l0 x5_1).f4).length c486_4], .agg #[.string ((rd_T55 l1 x5_1).f0), .string ((rd_T55 l1 x5_1).f1), .slice A487_2 ((rd_T55 l1 x5_1).f2).length c487_2, .string ((rd_T55 l1 x5_1).f3), .slice A487_4 ((rd_T55 l1 x5_1).f4).length c487_4]] ?_
   with_reducible refine (laws_eqItem.calls k1 ((rd_T55 l0 x5_1).f0) ((rd_T55 l0 x5_1).f1) _ _ ((rd_T55 l0 x5_1).f2) ((rd_T55 l0 x5_1).f3) _ _ ((rd_T55 l0 x5_1).f4) ((rd_T55 l1 x5_1).f0) ((rd_T55 l1 x5_1).f1) _ _ ((rd_T55 l1 x5_1).f2) ((rd_T55 l1 x5_1).f3) _ _ ((rd_T55 l1 x5_1).f4) false _ ?side1 ?side2 ?side3 ?side4 ?side5 ?side6 ?side7 ?side8 A7.out).mono ?_
   (case side1 => exact cS_ HR486_2 HB)
   (case side2 => exact HC486_2.out)
   (case side3 => exact cS_ HR486_4 HB)
   (case side4 => exact HC486_4.out)
   (case side5 => exact cS_ HR487_2 HB)
   (case side6 => exact HC487_2.out)
   (case side7 => exact cS_ HR487_4 HB)
   (case side8 => exact HC487_4.out)
   rintro e w12 ⟨rfl, hb⟩
   refine ⟨_, rfl, ?_⟩
   replace HB := Aside0.mk (below_step (bw_ HB) hb)
   (try clear hb)
   (try clear hb2)
   (try clear hk)
   (try clear hi)
   refine hK.out _ _ ⟨((HB.out.cell (World.block_lt_of_cell? w _ hw486_0)).trans hw486_0), ((HB.out.cell (World.block_lt_of_cell? w _ hw486_1)).trans hw486_1), ((HB.out.cell (World.block_lt_of_cell? w _ hw486_2)).trans hw486_2), ((HB.out.cell (World.block_lt_of_cell? w _ hw486_3)).trans hw486_3), ((HB.out.cell (World.block_lt_of_cell? w _ hw486_4)).trans hw486_4), ((HB.out.cell (World.block_lt_of_cell? w _ hw487_0)).trans hw487_0), ((HB.out.cell (World.block_lt_of_cell? w _ hw487_1)).trans hw487_1), ((HB.out.cell (World.block_lt_of_cell? w _ hw487_2)).trans hw487_2), ((HB.out.cell (World.block_lt_of_cell? w _ hw487_3)).trans hw487_3), ((HB.out.cell (World.block_lt_of_cell? w _ hw487_4)).trans hw487_4)⟩ (fun hHeld => ?_)
   clear hK K
   refine nS_ 25 ?_
   refine pS_ 9 ?_
   refine done_ (done_of HT_.out (by kernel_rfl)) ?_
   try go_wp2
   go_ret
   exact ⟨eR_, bw_ HB⟩}}
   {
   rw [if_neg c6] at H
   exact absurd H (by simp)}}
   {
   rw [if_neg c5] at H
   exact absurd H (by simp)}}
   {
   rw [if_neg c4] at H
   have c4b0 := decide_eq_false c4
   (try (have c4b0' := c4b0; simp only [hl487_4] at c4b0'))
   clear c4
   obtain rfl := Option.some.inj H
   go_wp2
   go_ret
   exact ⟨eR_, bw_ HB⟩}}
 {
 rw [if_neg c3] at H
 have c3b0 : ((l0.length : Int) == (l1.length : Int)) = false := beq_eq_false_iff_ne.mpr c3
 have c3b1 : ((l0.length : Int) != (l1.length : Int)) = true := bne_iff_ne.mpr c3
 have c3b2 : (l0.length == l1.length) = false := by first | simpa using c3 | (simp at c3 ⊢; omega)
 obtain rfl := Option.some.inj H
 go_enter Tryz.func12, Tryz.ntmps12
 go_wp2
 go_ret
 exact ⟨eR_, bw_ HB⟩
}
end Go.Proofs.YtikjbfjnbhaljaaGreatDoor.P
end

section
namespace Go.Proofs.YtikjbfjnbhaljaaGreatDoor.P
open Go.RowKit Go.Proofs.YtikjbfjnbhaljaaGreatDoorW.PrintWords Go.Proofs.YtikjbfjnbhaljaaGreatDoorW.PrintLast Go.Proofs.YtikjbfjnbhaljaaGreatDoorW.PrintMore Go.Proofs.YtikjbfjnbhaljaaGreatDoorM
attribute [local go_sem] max2_int min2_int max_two min_two max_three min_three max_four min_four
set_option linter.unusedVariables false
set_option linter.unusedSimpArgs false
mutual
def spec_Optimise.l0 : Nat → List (S55) → Int → List (S57) → Int → Option (Int)
 | 0, _, _, _, _ => none
 | k + 1, x0, x3, x4, x5 => if x5 < (x0.length : Int) then (spec_Optimise.l1 k x0 x3 x4 x5 0) else (some x3)
def spec_Optimise.l1 : Nat → List (S55) → Int → List (S57) → Int → Int → Option (Int)
 | 0, _, _, _, _, _ => none
 | k + 1, x0, x3, x4, x5, x6 => if 0 ≤ x5 then (if x5 < (x0.length : Int) then (if x6 < (((rd_T55 x0 x5).f4).length : Int) then (if 0 ≤ x6 then (if ((rd_T57 ((rd_T55 x0 x5).f4) x6).f1) = 2 then (spec_Optimise.l2 k x0 x3 x4 x5 x6 false 0 ((rd_T57 ((rd_T55 x0 x5).f4) x6).f0) ((rd_T57 ((rd_T55 x0 x5).f4) x6).f1) ((rd_T57 ((rd_T55 x0 x5).f4) x6).f2) ((rd_T57 ((rd_T55 x0 x5).f4) x6).f3)) else (spec_Optimise.l1 k x0 x3 x4 x5 (wrap64 (x6 + 1)))) else (none)) else (spec_Optimise.l0 k x0 x3 x4 (wrap64 (x5 + 1)))) else (none)) else (none)
def spec_Optimise.l2 : Nat → List (S55) → Int → List (S57) → Int → Int → Bool → Int → ByteArray → Int → ByteArray → Bool → Option (Int)
 | 0, _, _, _, _, _, _, _, _, _, _, _ => none
 | k + 1, x0, x3, x4, x5, x6, x8, x9, x297000, x297001, x297002, x297003 => if x9 < (x4.length : Int) then (if x8 = true then (spec_Optimise.l1 k x0 (wrap64 (x3 + (x297002.size : Int))) x4 x5 (wrap64 (x6 + 1))) else (if 0 ≤ x9 then (if ((rd_T57 x4 x9).f2).toList = x297002.toList then (spec_Optimise.l2 k x0 x3 x4 x5 x6 (((rd_T57 x4 x9).f3) == x297003) (wrap64 (x9 + 1)) x297000 x297001 x297002 x297003) else (spec_Optimise.l2 k x0 x3 x4 x5 x6 false (wrap64 (x9 + 1)) x297000 x297001 x297002 x297003)) else (none))) else (if x8 = true then (spec_Optimise.l1 k x0 (wrap64 (x3 + (x297002.size : Int))) x4 x5 (wrap64 (x6 + 1))) else (if x4.length < 2932031007402 then (spec_Optimise.l1 k x0 x3 (x4 ++ [(⟨x297000, x297001, x297002, x297003⟩ : S57)]) x5 (wrap64 (x6 + 1))) else (none)))
end
def spec_Optimise.f (k : Nat) (l0 : List (S55)) : Option (Int) := (spec_StoreOk.f k l0).bind fun t289 => (if t289 = true then (spec_Optimise.l0 k l0 0 (([] : List (S57))) 0) else (some (-1)))
set_option maxHeartbeats 8000000 in
set_option maxRecDepth 100000 in
theorem spec_Optimise.calls (k : Nat) (A0 : Option Addr) (c0 : Nat) (l0 : List (S55)) (r : Int) (w : World) (hr0 : Kd.C k55 w A0 l0.length l0) (hc0 : l0.length ≤ c0) (h : spec_Optimise.f k l0 = some r) :
 Calls Tryz.prog 9 #[.slice A0 l0.length c0] w fun e w' => e = .returned (.int .i64 r) ∧ Below w.heap.size w w' := by
 have hu57 := Tryz.underlying57
 have HR0 := Aside0.mk hr0
 have HC0 := Aside0.mk hc0
 clear hr0 hc0
 have HB := Aside0.mk (Below.refl w.heap.size w)
 have H : ((spec_StoreOk.f k l0).bind fun t289 => (if t289 = true then (spec_Optimise.l0 k l0 0 (([] : List (S57))) 0) else (some (-1)))) = some r := h
 clear h
 replace H := Option.bind_eq_some_iff.mp H
 obtain ⟨t289, A20, H⟩ := H
 have A2 := Aside0.mk A20
 clear A20
 by_cases c3 : t289 = true
 {
 subst c3
 rw [if_pos rfl] at H
 obtain ⟨y290, hy290⟩ : ∃ y_ : List (S57), y_ = (([] : List (S57))) := ⟨_, rfl⟩
 replace H : (spec_Optimise.l0 k l0 0 y290 0) = some r := by first | (rw [hy290]; with_reducible exact H) | (have H2_ := (Option.bind_some _ _).symm.trans H; rw [hy290]; with_reducible exact H2_) | (have H2_ := (Option.bind_some _ _).symm.trans H; with_reducible exact H2_) | with_reducible exact H | (rw [hy290]; exact H) | exact H
 have Ny290 := Aside0.mk hy290
 clear hy290
 have H' := Aside0.mk H
 clear H
 go_enter Tryz.func9, Tryz.ntmps9
 go_wp2_with (first | (go_at_call 33; (with_reducible refine (spec_StoreOk.calls k _ _ l0 true _ ?side1 ?side2 A2.out).mono ?_); (case side1 => repeat (first | exact HR0.out | (with_reducible refine Kd.C_alloc ?_ _) | (with_reducible refine Kd.C_drewN ?_ _) | (with_reducible refine Kd.C_drew ?_))); (case side2 => exact HC0.out); rintro e w4 ⟨rfl, hb⟩; replace HB := Aside0.mk (below_step (bw_ HB) hb); (try clear hb); (try clear hb2); (try clear hk); (try clear hi)) | ((with_reducible refine gate_dst (N := 13) rfl ?_); refine Kd.R_lit k57 _ 57 ?hg (N := 13) ?hd (xs := ([] : List (S57))) (inner := []) (ok := fun _ => True) (okp := fun _ => True) ?hr ?hp (fun _ hk => hk) trivial (Below.refl _ _) (Nat.le_refl _) (by simp) ?_; (case hd => rfl); (case hg => rfl); (case hr => first | (go_simp; done) | (go_simp; rfl)); (case hp => exact (Reps.none _ _)); intro v291 w5 ho6 hb hg_ hnew_; clear hg_ hnew_; (first | rw [← Ny290.out] at ho6 | (simp only [Int.reduceToNat] at ho6; rw [← Ny290.out] at ho6)); have HO292 := Aside0.mk (Kd.R_lower ho6 (below_size (bw_ HB))); replace HB := Aside0.mk (below_step (bw_ HB) hb); clear hb ho6))
 repeat (go_quiet (first | (go_at_call 33; (with_reducible refine (spec_StoreOk.calls k _ _ l0 true _ ?side1 ?side2 A2.out).mono ?_); (case side1 => repeat (first | exact HR0.out | (with_reducible refine Kd.C_alloc ?_ _) | (with_reducible refine Kd.C_drewN ?_ _) | (with_reducible refine Kd.C_drew ?_))); (case side2 => exact HC0.out); rintro e w4 ⟨rfl, hb⟩; replace HB := Aside0.mk (below_step (bw_ HB) hb); (try clear hb); (try clear hb2); (try clear hk); (try clear hi)) | ((with_reducible refine gate_dst (N := 13) rfl ?_); refine Kd.R_lit k57 _ 57 ?hg (N := 13) ?hd (xs := ([] : List (S57))) (inner := []) (ok := fun _ => True) (okp := fun _ => True) ?hr ?hp (fun _ hk => hk) trivial (Below.refl _ _) (Nat.le_refl _) (by simp) ?_; (case hd => rfl); (case hg => rfl); (case hr => first | (go_simp; done) | (go_simp; rfl)); (case hp => exact (Reps.none _ _)); intro v291 w5 ho6 hb hg_ hnew_; clear hg_ hnew_; (first | rw [← Ny290.out] at ho6 | (simp only [Int.reduceToNat] at ho6; rw [← Ny290.out] at ho6)); have HO292 := Aside0.mk (Kd.R_lower ho6 (below_size (bw_ HB))); replace HB := Aside0.mk (below_step (bw_ HB) hb); clear hb ho6)); try go_wp2_with (first | (go_at_call 33; (with_reducible refine (spec_StoreOk.calls k _ _ l0 true _ ?side1 ?side2 A2.out).mono ?_); (case side1 => repeat (first | exact HR0.out | (with_reducible refine Kd.C_alloc ?_ _) | (with_reducible refine Kd.C_drewN ?_ _) | (with_reducible refine Kd.C_drew ?_))); (case side2 => exact HC0.out); rintro e w4 ⟨rfl, hb⟩; replace HB := Aside0.mk (below_step (bw_ HB) hb); (try clear hb); (try clear hb2); (try clear hk); (try clear hi)) | ((with_reducible refine gate_dst (N := 13) rfl ?_); refine Kd.R_lit k57 _ 57 ?hg (N := 13) ?hd (xs := ([] : List (S57))) (inner := []) (ok := fun _ => True) (okp := fun _ => True) ?hr ?hp (fun _ hk => hk) trivial (Below.refl _ _) (Nat.le_refl _) (by simp) ?_; (case hd => rfl); (case hg => rfl); (case hr => first | (go_simp; done) | (go_simp; rfl)); (case hp => exact (Reps.none _ _)); intro v291 w5 ho6 hb hg_ hnew_; clear hg_ hnew_; (first | rw [← Ny290.out] at ho6 | (simp only [Int.reduceToNat] at ho6; rw [← Ny290.out] at ho6)); have HO292 := Aside0.mk (Kd.R_lower ho6 (below_size (bw_ HB))); replace HB := Aside0.mk (below_step (bw_ HB) hb); clear hb ho6)))
 go_loopg [3, 4, 5] k (fun kq v3 v4 v5 w' => ∃ (x3_1 : Int) (x4_1 : List (S57)) (x5_1 : Int), v3 = .int .i64 x3_1 ∧ v5 = .int .i64 x5_1 ∧ Aside0 (spec_Optimise.l0 kq l0 x3_1 x4_1 x5_1 = some r) ∧ Aside0 (kq ≤ k) ∧ Aside0 (Kd.R k57 57 w' w.heap.size (fun _ => True) v4 x4_1) ∧ Aside0 (Below w.heap.size w w'))
 case atStart => exact ⟨(0), (y290), (0), (by first | rfl | (simp; done) | (simp [*]; done)), (by first | rfl | (simp; done) | (simp [*]; done)), H', ⟨Nat.le_refl _⟩, ⟨kr_ HO292⟩, ⟨bw_ HB⟩⟩
 case round =>
  clear H'
  try clear p2
  try clear c3
  obtain ⟨x3_1, x4_1, x5_1, rfl, rfl, HA, HK1, HO_4, HB⟩ := hrel
  cases gk with
  | zero => exact absurd HA.out (by simp [spec_Optimise.l0])
  | succ k1 =>
   have H := HA.out
   clear HA
   simp only [spec_Optimise.l0] at H
   by_cases c7 : x5_1 < (l0.length : Int)
   {
   rw [if_pos c7] at H
   have c7b0 := decide_eq_true c7
   clear c7
   have H' := Aside0.mk H
   clear H
   go_wp2
   repeat (go_quiet (fail); try go_wp2)
   go_loopg [3, 4, 6] k1 (fun kq v3 v4 v6 w' => ∃ (x3_2 : Int) (x4_2 : List (S57)) (x6_2 : Int), v3 = .int .i64 x3_2 ∧ v6 = .int .i64 x6_2 ∧ Aside0 (spec_Optimise.l1 kq l0 x3_2 x4_2 x5_1 x6_2 = some r) ∧ Aside0 (kq ≤ k1) ∧ Aside0 (Kd.R k57 57 w' w.heap.size (fun _ => True) v4 x4_2) ∧ Aside0 (Below w.heap.size w w'))
   case atStart => exact ⟨(x3_1), (x4_1), (0), (by first | rfl | (simp; done) | (simp [*]; done)), (by first | rfl | (simp; done) | (simp [*]; done)), H', ⟨Nat.le_refl _⟩, ⟨kr_ HO_4⟩, ⟨bw_ HB⟩⟩
   case round =>
    clear H'
    try clear p2
    try clear c3
    try clear c7
    try clear c7b0
    try clear p2
    obtain ⟨x3_2, x4_2, x6_2, rfl, rfl, HA, HK2, HO_4, HB⟩ := hrel
    cases gk with
    | zero => exact absurd HA.out (by simp [spec_Optimise.l1])
    | succ k2 =>
     have H := HA.out
     clear HA
     simp only [spec_Optimise.l1] at H
     by_cases c8 : 0 ≤ x5_1
     {
     rw [if_pos c8] at H
     have c8b0 := decide_eq_true c8
     clear c8
     by_cases c9 : x5_1 < (l0.length : Int)
     {
     rw [if_pos c9] at H
     have c9b0 := decide_eq_true c9
     clear c9
     by_cases c10 : x6_2 < (((rd_T55 l0 x5_1).f4).length : Int)
     {
     rw [if_pos c10] at H
     have c10b0 := decide_eq_true c10
     clear c10
     by_cases c11 : 0 ≤ x6_2
     {
     rw [if_pos c11] at H
     have c11b0 := decide_eq_true c11
     clear c11
     by_cases c12 : ((rd_T57 ((rd_T55 l0 x5_1).f4) x6_2).f1) = 2
     {
     rw [if_pos c12] at H
     have c12b0 : (((rd_T57 ((rd_T55 l0 x5_1).f4) x6_2).f1) == 2) = true := beq_iff_eq.mpr c12
     have c12b1 : (((rd_T57 ((rd_T55 l0 x5_1).f4) x6_2).f1) != 2) = false := bne_eq_false_iff_eq.mpr c12
     clear c12
     have H' := Aside0.mk H
     clear H
     have p293 : 0 ≤ (x5_1 : Int) := dA_
     have q293 : x5_1 < (l0.length : Int) := dA_
     obtain ⟨ad293, A293_2, c293_2, A293_4, c293_4, e293, hx293_0, hx293_1, hx293_2, hx293_3, hx293_4, hl293_2, hi293_2, hl293_4, hi293_4⟩ := at_T55 HR0.out x5_1 p293 q293
     cases e293
     replace hx293_0 := hX_ HB hx293_0
     replace hx293_1 := hX_ HB hx293_1
     replace hx293_2 := hX_ HB hx293_2
     replace hx293_3 := hX_ HB hx293_3
     replace hx293_4 := hX_ HB hx293_4
     have HR293_2 := Aside0.mk hi293_2
     have HC293_2 := Aside0.mk hl293_2
     clear hi293_2 hl293_2
     have HR293_4 := Aside0.mk hi293_4
     have HC293_4 := Aside0.mk hl293_4
     clear hi293_4 hl293_4
     replace p293 := eq_true p293
     replace q293 := eq_true q293
     have p294 : 0 ≤ (x5_1 : Int) := dA_
     have q294 : x5_1 < (l0.length : Int) := dA_
     obtain ⟨ad294, A294_2, c294_2, A294_4, c294_4, e294, hx294_0, hx294_1, hx294_2, hx294_3, hx294_4, hl294_2, hi294_2, hl294_4, hi294_4⟩ := at_T55 HR0.out x5_1 p294 q294
     obtain rfl : ad293 = ad294 := (by injection e294)
     replace hx294_0 := hX_ HB hx294_0
     replace hx294_1 := hX_ HB hx294_1
     replace hx294_2 := hX_ HB hx294_2
     replace hx294_3 := hX_ HB hx294_3
     replace hx294_4 := hX_ HB hx294_4
     have HR294_2 := Aside0.mk hi294_2
     have HC294_2 := Aside0.mk hl294_2
     clear hi294_2 hl294_2
     have HR294_4 := Aside0.mk hi294_4
     have HC294_4 := Aside0.mk hl294_4
     clear hi294_4 hl294_4
     replace p294 := eq_true p294
     replace q294 := eq_true q294
     have ea_ := Option.some.inj (hx293_2.symm.trans hx294_2)
     injection ea_ with ea_ en_ ec_
     subst ea_
     subst ec_
     clear en_
     have ea_ := Option.some.inj (hx293_4.symm.trans hx294_4)
     injection ea_ with ea_ en_ ec_
     subst ea_
     subst ec_
     clear en_
     have p295 : 0 ≤ (x6_2 : Int) := dA_
     have q295 : x6_2 < (((rd_T55 l0 x5_1).f4).length : Int) := dA_
     obtain ⟨ad295, e295, hx295_0, hx295_1, hx295_2, hx295_3⟩ := at_T57 HR294_4.out x6_2 p295 q295
     cases e295
     replace hx295_0 := hX_ HB hx295_0
     replace hx295_1 := hX_ HB hx295_1
     replace hx295_2 := hX_ HB hx295_2
     replace hx295_3 := hX_ HB hx295_3
     replace p295 := eq_true p295
     replace q295 := eq_true q295
     go_wp2_with (first | ((with_reducible refine gate_dst (N := 7) rfl ?_); refine bE_ 7 #[.string (⟨#[]⟩ : ByteArray), .int .i64 0, .string (⟨#[]⟩ : ByteArray), .bool false] 57 ?_; intro gb296 hg w13 hbox hb; replace HO_4 := Aside0.mk (Kd.R_below (Kd.R_elderB (kr_ HO_4) gb296 (Nat.le_of_eq hg.symm)) hb); have BK296 := Aside0.mk (hbox); have GW296 := Aside0.mk (ge_ hg (bw_ HB)); have GE296 := Aside0.mk (ge_ hg (bw_ HB)); replace HB := Aside0.mk (below_step (bw_ HB) hb); clear hb hbox hg; have hcz14_0 := cz_ BK296 0 (.string (⟨#[]⟩ : ByteArray)); have hcz14_1 := cz_ BK296 1 (.int .i64 0); have hcz14_2 := cz_ BK296 2 (.string (⟨#[]⟩ : ByteArray)); have hcz14_3 := cz_ BK296 3 (.bool false); have hfz14_0 := blk_frozen BK296.out 0; have hfz14_1 := blk_frozen BK296.out 1; have hfz14_2 := blk_frozen BK296.out 2; have hfz14_3 := blk_frozen BK296.out 3))
     repeat (go_quiet (first | ((with_reducible refine gate_dst (N := 7) rfl ?_); refine bE_ 7 #[.string (⟨#[]⟩ : ByteArray), .int .i64 0, .string (⟨#[]⟩ : ByteArray), .bool false] 57 ?_; intro gb296 hg w13 hbox hb; replace HO_4 := Aside0.mk (Kd.R_below (Kd.R_elderB (kr_ HO_4) gb296 (Nat.le_of_eq hg.symm)) hb); have BK296 := Aside0.mk (hbox); have GW296 := Aside0.mk (ge_ hg (bw_ HB)); have GE296 := Aside0.mk (ge_ hg (bw_ HB)); replace HB := Aside0.mk (below_step (bw_ HB) hb); clear hb hbox hg; have hcz14_0 := cz_ BK296 0 (.string (⟨#[]⟩ : ByteArray)); have hcz14_1 := cz_ BK296 1 (.int .i64 0); have hcz14_2 := cz_ BK296 2 (.string (⟨#[]⟩ : ByteArray)); have hcz14_3 := cz_ BK296 3 (.bool false); have hfz14_0 := blk_frozen BK296.out 0; have hfz14_1 := blk_frozen BK296.out 1; have hfz14_2 := blk_frozen BK296.out 2; have hfz14_3 := blk_frozen BK296.out 3)); try go_wp2_with (first | ((with_reducible refine gate_dst (N := 7) rfl ?_); refine bE_ 7 #[.string (⟨#[]⟩ : ByteArray), .int .i64 0, .string (⟨#[]⟩ : ByteArray), .bool false] 57 ?_; intro gb296 hg w13 hbox hb; replace HO_4 := Aside0.mk (Kd.R_below (Kd.R_elderB (kr_ HO_4) gb296 (Nat.le_of_eq hg.symm)) hb); have BK296 := Aside0.mk (hbox); have GW296 := Aside0.mk (ge_ hg (bw_ HB)); have GE296 := Aside0.mk (ge_ hg (bw_ HB)); replace HB := Aside0.mk (below_step (bw_ HB) hb); clear hb hbox hg; have hcz14_0 := cz_ BK296 0 (.string (⟨#[]⟩ : ByteArray)); have hcz14_1 := cz_ BK296 1 (.int .i64 0); have hcz14_2 := cz_ BK296 2 (.string (⟨#[]⟩ : ByteArray)); have hcz14_3 := cz_ BK296 3 (.bool false); have hfz14_0 := blk_frozen BK296.out 0; have hfz14_1 := blk_frozen BK296.out 1; have hfz14_2 := blk_frozen BK296.out 2; have hfz14_3 := blk_frozen BK296.out 3)))
     go_loopg [8, 9] k2 (fun kq v8 v9 w' => ∃ (x8_3 : Bool) (x9_3 : Int), v8 = .bool x8_3 ∧ v9 = .int .i64 x9_3 ∧ Aside0 (spec_Optimise.l2 kq l0 x3_2 x4_2 x5_1 x6_2 x8_3 x9_3 ((rd_T57 ((rd_T55 l0 x5_1).f4) x6_2).f0) ((rd_T57 ((rd_T55 l0 x5_1).f4) x6_2).f1) ((rd_T57 ((rd_T55 l0 x5_1).f4) x6_2).f2) ((rd_T57 ((rd_T55 l0 x5_1).f4) x6_2).f3) = some r) ∧ Aside0 (kq ≤ k2) ∧ Aside0 (Kd.R k57 57 w' w.heap.size (fun k_ => k_ ≠ gb296) u4 x4_2) ∧ Aside0 (w'.heap[gb296]? = some (.cells #[.string ((rd_T57 ((rd_T55 l0 x5_1).f4) x6_2).f0), .int .i64 ((rd_T57 ((rd_T55 l0 x5_1).f4) x6_2).f1), .string ((rd_T57 ((rd_T55 l0 x5_1).f4) x6_2).f2), .bool ((rd_T57 ((rd_T55 l0 x5_1).f4) x6_2).f3)] 57 (0, 0))) ∧ Aside0 (Below w.heap.size w w'))
     case atStart => exact ⟨(false), (0), (by first | rfl | (simp; done) | (simp [*]; done)), (by first | rfl | (simp; done) | (simp [*]; done)), H', ⟨Nat.le_refl _⟩, ⟨by (with_reducible repeat (first | apply Kd.R_alloc | apply Kd.R_drewN | apply Kd.R_drew)); exact Kd.R_mono (Kd.R_far (p := ⟨gb296, 3, none⟩) (Kd.R_far (p := ⟨gb296, 2, none⟩) (Kd.R_far (p := ⟨gb296, 1, none⟩) (Kd.R_far (p := ⟨gb296, 0, none⟩) (Kd.R_mono HO_4.out (fun k_ hk => (⟨hk, hk.2⟩ : _ ∧ k_ ≠ gb296))) (fun _ hk => hk.2) (.string ((rd_T57 ((rd_T55 l0 x5_1).f4) x6_2).f0))) (fun _ hk => hk.2) (.int .i64 ((rd_T57 ((rd_T55 l0 x5_1).f4) x6_2).f1))) (fun _ hk => hk.2) (.string ((rd_T57 ((rd_T55 l0 x5_1).f4) x6_2).f2))) (fun _ hk => hk.2) (.bool ((rd_T57 ((rd_T55 l0 x5_1).f4) x6_2).f3))) (fun _ hk => hk.1.2)⟩, ⟨by (with_reducible repeat (first | refine blk_drewN ?_ _ | refine blk_drew ?_ | refine blk_alloc ?_ _)); refine blk_put (cs := #[.string ((rd_T57 ((rd_T55 l0 x5_1).f4) x6_2).f0), .int .i64 ((rd_T57 ((rd_T55 l0 x5_1).f4) x6_2).f1), .string ((rd_T57 ((rd_T55 l0 x5_1).f4) x6_2).f2), .bool false]) ?_ 3 _ rfl; (with_reducible repeat (first | refine blk_drewN ?_ _ | refine blk_drew ?_ | refine blk_alloc ?_ _)); refine blk_put (cs := #[.string ((rd_T57 ((rd_T55 l0 x5_1).f4) x6_2).f0), .int .i64 ((rd_T57 ((rd_T55 l0 x5_1).f4) x6_2).f1), .string (⟨#[]⟩ : ByteArray), .bool false]) ?_ 2 _ rfl; (with_reducible repeat (first | refine blk_drewN ?_ _ | refine blk_drew ?_ | refine blk_alloc ?_ _)); refine blk_put (cs := #[.string ((rd_T57 ((rd_T55 l0 x5_1).f4) x6_2).f0), .int .i64 0, .string (⟨#[]⟩ : ByteArray), .bool false]) ?_ 1 _ rfl; (with_reducible repeat (first | refine blk_drewN ?_ _ | refine blk_drew ?_ | refine blk_alloc ?_ _)); refine blk_put (cs := #[.string (⟨#[]⟩ : ByteArray), .int .i64 0, .string (⟨#[]⟩ : ByteArray), .bool false]) ?_ 0 _ rfl; (with_reducible repeat (first | refine blk_drewN ?_ _ | refine blk_drew ?_ | refine blk_alloc ?_ _)); exact BK296.out⟩, ⟨bw1_ HB GE296⟩⟩
     case round =>
      clear H'
      try clear c1
      try clear c2
      try clear p2
      try clear q2
      try clear hx2
      try clear c3
      try clear c7
      try clear c7b0
      try clear c8
      try clear c8b0
      try clear c9
      try clear c9b0
      try clear c10
      try clear c10b0
      try clear c11
      try clear c11b0
      try clear c12
      try clear c12b0
      try clear c12b1
      try clear hcz14_0
      try clear hcz14_1
      try clear hcz14_2
      try clear hcz14_3
      try clear hfz14_0
      try clear hfz14_1
      try clear hfz14_2
      try clear hfz14_3
      try clear hx293_0
      try clear hx293_1
      try clear hx293_2
      try clear hx293_3
      try clear hx293_4
      try clear hx294_0
      try clear hx294_1
      try clear hx294_2
      try clear hx294_3
      try clear hx294_4
      try clear hx295_0
      try clear hx295_1
      try clear hx295_2
      try clear hx295_3
      try clear p2
      try clear p293
      try clear p294
      try clear p295
      try clear q293
      try clear q294
      try clear q295
      obtain ⟨x8_3, x9_3, rfl, rfl, HA, HK3, HO_4, BK296, HB⟩ := hrel
      cases gk with
      | zero => exact absurd HA.out (by simp [spec_Optimise.l2])
      | succ k3 =>
       have H := HA.out
       clear HA
       simp only [spec_Optimise.l2] at H
       by_cases c15 : x9_3 < (x4_2.length : Int)
       {
       rw [if_pos c15] at H
       have c15b0 := decide_eq_true c15
       (try (have c15b0' := c15b0; simp only [hl294_4] at c15b0'))
       clear c15
       by_cases c16 : x8_3 = true
       {
       subst c16
       rw [if_pos rfl] at H
       have H' := Aside0.mk H
       clear H
       obtain ⟨Ao17, co17, eo17⟩ := Kd.R_slice HO_4.out
       subst eo17
       have hcz18_0 := cz_ BK296 0 (.string ((rd_T57 ((rd_T55 l0 x5_1).f4) x6_2).f0))
       have hcz18_1 := cz_ BK296 1 (.int .i64 ((rd_T57 ((rd_T55 l0 x5_1).f4) x6_2).f1))
       have hcz18_2 := cz_ BK296 2 (.string ((rd_T57 ((rd_T55 l0 x5_1).f4) x6_2).f2))
       have hcz18_3 := cz_ BK296 3 (.bool ((rd_T57 ((rd_T55 l0 x5_1).f4) x6_2).f3))
       have hfz18_0 := blk_frozen BK296.out 0
       have hfz18_1 := blk_frozen BK296.out 1
       have hfz18_2 := blk_frozen BK296.out 2
       have hfz18_3 := blk_frozen BK296.out 3
       go_wp2
       repeat (go_quiet (fail); try go_wp2)
       go_roundg k3
       case measure => have := HK1.out; have := HK2.out; have := HK3.out; omega
       case rel => exact ⟨(wrap64 (x3_2 + (((rd_T57 ((rd_T55 l0 x5_1).f4) x6_2).f2).size : Int))), (x4_2), (wrap64 (x6_2 + 1)), (by first | rfl | (simp; done) | (simp [*]; done)), (by first | rfl | (simp; done) | (simp [*]; done)), H', ⟨by have := HK1.out; have := HK2.out; have := HK3.out; omega⟩, ⟨by (with_reducible repeat (first | apply Kd.R_alloc | apply Kd.R_drewN | apply Kd.R_drew)); exact Kd.R_mono HO_4.out (fun _ hk => trivial)⟩, ⟨bw1_ HB GE296⟩⟩}
       {
       replace c16 := Bool.eq_false_iff.mpr c16
       subst c16
       rw [if_neg (show ¬ (false = true) by decide)] at H
       by_cases c19 : 0 ≤ x9_3
       {
       rw [if_pos c19] at H
       have c19b0 := decide_eq_true c19
       clear c19
       by_cases c20 : ((rd_T57 x4_2 x9_3).f2).toList = ((rd_T57 ((rd_T55 l0 x5_1).f4) x6_2).f2).toList
       {
       rw [if_pos c20] at H
       have c20b0 : (((rd_T57 x4_2 x9_3).f2).toList == ((rd_T57 ((rd_T55 l0 x5_1).f4) x6_2).f2).toList) = true := beq_iff_eq.mpr c20
       have c20b1 : (((rd_T57 x4_2 x9_3).f2).toList != ((rd_T57 ((rd_T55 l0 x5_1).f4) x6_2).f2).toList) = false := bne_eq_false_iff_eq.mpr c20
       clear c20
       have H' := Aside0.mk H
       clear H
       obtain ⟨Ao21, co21, eo21⟩ := Kd.R_slice HO_4.out
       subst eo21
       have p297 : 0 ≤ (x9_3 : Int) := dA_
       have q297 : x9_3 < (x4_2.length : Int) := dA_
       obtain ⟨ad297, e297, hx297_0, hx297_1, hx297_2, hx297_3⟩ := at_T57 (Kd.R_reads' HO_4.out).2.2 x9_3 p297 q297
       cases e297
       replace p297 := eq_true p297
       replace q297 := eq_true q297
       have hcz22_0 := cz_ BK296 0 (.string ((rd_T57 ((rd_T55 l0 x5_1).f4) x6_2).f0))
       have hcz22_1 := cz_ BK296 1 (.int .i64 ((rd_T57 ((rd_T55 l0 x5_1).f4) x6_2).f1))
       have hcz22_2 := cz_ BK296 2 (.string ((rd_T57 ((rd_T55 l0 x5_1).f4) x6_2).f2))
       have hcz22_3 := cz_ BK296 3 (.bool ((rd_T57 ((rd_T55 l0 x5_1).f4) x6_2).f3))
       have hfz22_0 := blk_frozen BK296.out 0
       have hfz22_1 := blk_frozen BK296.out 1
       have hfz22_2 := blk_frozen BK296.out 2
       have hfz22_3 := blk_frozen BK296.out 3
       have p298 : 0 ≤ (x9_3 : Int) := dA_
       have q298 : x9_3 < (x4_2.length : Int) := dA_
       obtain ⟨ad298, e298, hx298_0, hx298_1, hx298_2, hx298_3⟩ := at_T57 (Kd.R_reads' HO_4.out).2.2 x9_3 p298 q298
       obtain rfl : ad297 = ad298 := (by injection e298)
       replace p298 := eq_true p298
       replace q298 := eq_true q298
       go_wp2
       repeat (go_quiet (fail); try go_wp2)
       go_roundg k3
       case measure => have := HK1.out; have := HK2.out; have := HK3.out; omega
       case rel => exact ⟨((((rd_T57 x4_2 x9_3).f3) == ((rd_T57 ((rd_T55 l0 x5_1).f4) x6_2).f3))), (wrap64 (x9_3 + 1)), (by first | rfl | (simp; done) | (simp [*]; done)), (by first | rfl | (simp; done) | (simp [*]; done)), H', ⟨by have := HK1.out; have := HK2.out; have := HK3.out; omega⟩, ⟨kr_ HO_4⟩, ⟨bk_ BK296⟩, ⟨bw1_ HB GE296⟩⟩}
       {
       rw [if_neg c20] at H
       have c20b0 : (((rd_T57 x4_2 x9_3).f2).toList == ((rd_T57 ((rd_T55 l0 x5_1).f4) x6_2).f2).toList) = false := beq_eq_false_iff_ne.mpr c20
       have c20b1 : (((rd_T57 x4_2 x9_3).f2).toList != ((rd_T57 ((rd_T55 l0 x5_1).f4) x6_2).f2).toList) = true := bne_iff_ne.mpr c20
       have H' := Aside0.mk H
       clear H
       obtain ⟨Ao23, co23, eo23⟩ := Kd.R_slice HO_4.out
       subst eo23
       have p297 : 0 ≤ (x9_3 : Int) := dA_
       have q297 : x9_3 < (x4_2.length : Int) := dA_
       obtain ⟨ad297, e297, hx297_0, hx297_1, hx297_2, hx297_3⟩ := at_T57 (Kd.R_reads' HO_4.out).2.2 x9_3 p297 q297
       cases e297
       replace p297 := eq_true p297
       replace q297 := eq_true q297
       have hcz24_0 := cz_ BK296 0 (.string ((rd_T57 ((rd_T55 l0 x5_1).f4) x6_2).f0))
       have hcz24_1 := cz_ BK296 1 (.int .i64 ((rd_T57 ((rd_T55 l0 x5_1).f4) x6_2).f1))
       have hcz24_2 := cz_ BK296 2 (.string ((rd_T57 ((rd_T55 l0 x5_1).f4) x6_2).f2))
       have hcz24_3 := cz_ BK296 3 (.bool ((rd_T57 ((rd_T55 l0 x5_1).f4) x6_2).f3))
       have hfz24_0 := blk_frozen BK296.out 0
       have hfz24_1 := blk_frozen BK296.out 1
       have hfz24_2 := blk_frozen BK296.out 2
       have hfz24_3 := blk_frozen BK296.out 3
       go_wp2
       repeat (go_quiet (fail); try go_wp2)
       go_roundg k3
       case measure => have := HK1.out; have := HK2.out; have := HK3.out; omega
       case rel => exact ⟨(false), (wrap64 (x9_3 + 1)), (by first | rfl | (simp; done) | (simp [*]; done)), (by first | rfl | (simp; done) | (simp [*]; done)), H', ⟨by have := HK1.out; have := HK2.out; have := HK3.out; omega⟩, ⟨kr_ HO_4⟩, ⟨bk_ BK296⟩, ⟨bw1_ HB GE296⟩⟩}}
       {
       rw [if_neg c19] at H
       exact absurd H (by simp)}}}
       {
       rw [if_neg c15] at H
       have c15b0 := decide_eq_false c15
       (try (have c15b0' := c15b0; simp only [hl294_4] at c15b0'))
       clear c15
       by_cases c25 : x8_3 = true
       {
       subst c25
       rw [if_pos rfl] at H
       have H' := Aside0.mk H
       clear H
       obtain ⟨Ao26, co26, eo26⟩ := Kd.R_slice HO_4.out
       subst eo26
       have hcz27_0 := cz_ BK296 0 (.string ((rd_T57 ((rd_T55 l0 x5_1).f4) x6_2).f0))
       have hcz27_1 := cz_ BK296 1 (.int .i64 ((rd_T57 ((rd_T55 l0 x5_1).f4) x6_2).f1))
       have hcz27_2 := cz_ BK296 2 (.string ((rd_T57 ((rd_T55 l0 x5_1).f4) x6_2).f2))
       have hcz27_3 := cz_ BK296 3 (.bool ((rd_T57 ((rd_T55 l0 x5_1).f4) x6_2).f3))
       have hfz27_0 := blk_frozen BK296.out 0
       have hfz27_1 := blk_frozen BK296.out 1
       have hfz27_2 := blk_frozen BK296.out 2
       have hfz27_3 := blk_frozen BK296.out 3
       go_wp2
       repeat (go_quiet (fail); try go_wp2)
       go_roundg k3
       case measure => have := HK1.out; have := HK2.out; have := HK3.out; omega
       case rel => exact ⟨(wrap64 (x3_2 + (((rd_T57 ((rd_T55 l0 x5_1).f4) x6_2).f2).size : Int))), (x4_2), (wrap64 (x6_2 + 1)), (by first | rfl | (simp; done) | (simp [*]; done)), (by first | rfl | (simp; done) | (simp [*]; done)), H', ⟨by have := HK1.out; have := HK2.out; have := HK3.out; omega⟩, ⟨by (with_reducible repeat (first | apply Kd.R_alloc | apply Kd.R_drewN | apply Kd.R_drew)); exact Kd.R_mono HO_4.out (fun _ hk => trivial)⟩, ⟨bw1_ HB GE296⟩⟩}
       {
       replace c25 := Bool.eq_false_iff.mpr c25
       subst c25
       rw [if_neg (show ¬ (false = true) by decide)] at H
       by_cases c28 : x4_2.length < 2932031007402
       {
       rw [if_pos c28] at H
       have LMc28 := Aside0.mk c28
       clear c28
       obtain ⟨y299, hy299⟩ : ∃ y_ : List (S57), y_ = (x4_2 ++ [(⟨((rd_T57 ((rd_T55 l0 x5_1).f4) x6_2).f0), ((rd_T57 ((rd_T55 l0 x5_1).f4) x6_2).f1), ((rd_T57 ((rd_T55 l0 x5_1).f4) x6_2).f2), ((rd_T57 ((rd_T55 l0 x5_1).f4) x6_2).f3)⟩ : S57)]) := ⟨_, rfl⟩
       replace H : (spec_Optimise.l1 k3 l0 x3_2 y299 x5_1 (wrap64 (x6_2 + 1))) = some r := by first | (rw [hy299]; with_reducible exact H) | (have H2_ := (Option.bind_some _ _).symm.trans H; rw [hy299]; with_reducible exact H2_) | (have H2_ := (Option.bind_some _ _).symm.trans H; with_reducible exact H2_) | with_reducible exact H | (rw [hy299]; exact H) | exact H
       have Ny299 := Aside0.mk hy299
       clear hy299
       have H' := Aside0.mk H
       clear H
       obtain ⟨Ao29, co29, eo29⟩ := Kd.R_slice HO_4.out
       subst eo29
       have hcz30_0 := cz_ BK296 0 (.string ((rd_T57 ((rd_T55 l0 x5_1).f4) x6_2).f0))
       have hcz30_1 := cz_ BK296 1 (.int .i64 ((rd_T57 ((rd_T55 l0 x5_1).f4) x6_2).f1))
       have hcz30_2 := cz_ BK296 2 (.string ((rd_T57 ((rd_T55 l0 x5_1).f4) x6_2).f2))
       have hcz30_3 := cz_ BK296 3 (.bool ((rd_T57 ((rd_T55 l0 x5_1).f4) x6_2).f3))
       have hfz30_0 := blk_frozen BK296.out 0
       have hfz30_1 := blk_frozen BK296.out 1
       have hfz30_2 := blk_frozen BK296.out 2
       have hfz30_3 := blk_frozen BK296.out 3
       go_wp2_with (first | ((with_reducible refine gate_builtin (b := .append) (xs := #[.tmp 75, .tmp 77]) rfl ?_); at_builtin; refine Kd.R_append k57 (w0 := w) w.heap.size rfl (.tmp 75) (.tmp 77) 39 57 (.agg #[(.string ⟨#[]⟩), (.int .i64 0), (.string ⟨#[]⟩), (.bool false)]) 48 rfl Tryz.underlying39 info57 rfl (by decide) (by omega) (.slice Ao29 x4_2.length co29) x4_2 (⟨((rd_T57 ((rd_T55 l0 x5_1).f4) x6_2).f0), ((rd_T57 ((rd_T55 l0 x5_1).f4) x6_2).f1), ((rd_T57 ((rd_T55 l0 x5_1).f4) x6_2).f2), ((rd_T57 ((rd_T55 l0 x5_1).f4) x6_2).f3)⟩ : S57) [.string ((rd_T57 ((rd_T55 l0 x5_1).f4) x6_2).f0), .int .i64 ((rd_T57 ((rd_T55 l0 x5_1).f4) x6_2).f1), .string ((rd_T57 ((rd_T55 l0 x5_1).f4) x6_2).f2), .bool ((rd_T57 ((rd_T55 l0 x5_1).f4) x6_2).f3)] (fun k_ => k_ ≠ gb296) (fun _ => False) rfl rfl ?aP (fun _ hk => hk.elim) ?aF ?aO ?aB ?aS ?aL ?_; (case aP => exact k57_mkM _ _ _ (⟨((rd_T57 ((rd_T55 l0 x5_1).f4) x6_2).f0), ((rd_T57 ((rd_T55 l0 x5_1).f4) x6_2).f1), ((rd_T57 ((rd_T55 l0 x5_1).f4) x6_2).f2), ((rd_T57 ((rd_T55 l0 x5_1).f4) x6_2).f3)⟩ : S57)); (case aB => exact (bw1_ HB GE296)); (case aF => exact (fun k_ hk => Kd.freshB (g := gb296) (o := .cells #[.string ((rd_T57 ((rd_T55 l0 x5_1).f4) x6_2).f0), .int .i64 ((rd_T57 ((rd_T55 l0 x5_1).f4) x6_2).f1), .string ((rd_T57 ((rd_T55 l0 x5_1).f4) x6_2).f2), .bool ((rd_T57 ((rd_T55 l0 x5_1).f4) x6_2).f3)] 57 (0, 0)) (bk_ BK296) k_ hk)); (case aO => exact (kr_ HO_4)); (case aS => exact (below_size (bw1_ HB GE296))); (case aL => have := LMc28.out; omega); intro v300 w31 ho hb hg hat; rw [← Ny299.out] at ho; replace BK296 := Aside0.mk (blk_grown (g := gb296) (o := .cells #[.string ((rd_T57 ((rd_T55 l0 x5_1).f4) x6_2).f0), .int .i64 ((rd_T57 ((rd_T55 l0 x5_1).f4) x6_2).f1), .string ((rd_T57 ((rd_T55 l0 x5_1).f4) x6_2).f2), .bool ((rd_T57 ((rd_T55 l0 x5_1).f4) x6_2).f3)] 57 (0, 0)) (bk_ BK296) hg (Kd.R_away HO_4.out (fun _ hk => hk))); replace HB := Aside0.mk (hb); have HO301 := Aside0.mk (ho); clear HO_4; clear ho hb hg hat))
       repeat (go_quiet (first | ((with_reducible refine gate_builtin (b := .append) (xs := #[.tmp 75, .tmp 77]) rfl ?_); at_builtin; refine Kd.R_append k57 (w0 := w) w.heap.size rfl (.tmp 75) (.tmp 77) 39 57 (.agg #[(.string ⟨#[]⟩), (.int .i64 0), (.string ⟨#[]⟩), (.bool false)]) 48 rfl Tryz.underlying39 info57 rfl (by decide) (by omega) (.slice Ao29 x4_2.length co29) x4_2 (⟨((rd_T57 ((rd_T55 l0 x5_1).f4) x6_2).f0), ((rd_T57 ((rd_T55 l0 x5_1).f4) x6_2).f1), ((rd_T57 ((rd_T55 l0 x5_1).f4) x6_2).f2), ((rd_T57 ((rd_T55 l0 x5_1).f4) x6_2).f3)⟩ : S57) [.string ((rd_T57 ((rd_T55 l0 x5_1).f4) x6_2).f0), .int .i64 ((rd_T57 ((rd_T55 l0 x5_1).f4) x6_2).f1), .string ((rd_T57 ((rd_T55 l0 x5_1).f4) x6_2).f2), .bool ((rd_T57 ((rd_T55 l0 x5_1).f4) x6_2).f3)] (fun k_ => k_ ≠ gb296) (fun _ => False) rfl rfl ?aP (fun _ hk => hk.elim) ?aF ?aO ?aB ?aS ?aL ?_; (case aP => exact k57_mkM _ _ _ (⟨((rd_T57 ((rd_T55 l0 x5_1).f4) x6_2).f0), ((rd_T57 ((rd_T55 l0 x5_1).f4) x6_2).f1), ((rd_T57 ((rd_T55 l0 x5_1).f4) x6_2).f2), ((rd_T57 ((rd_T55 l0 x5_1).f4) x6_2).f3)⟩ : S57)); (case aB => exact (bw1_ HB GE296)); (case aF => exact (fun k_ hk => Kd.freshB (g := gb296) (o := .cells #[.string ((rd_T57 ((rd_T55 l0 x5_1).f4) x6_2).f0), .int .i64 ((rd_T57 ((rd_T55 l0 x5_1).f4) x6_2).f1), .string ((rd_T57 ((rd_T55 l0 x5_1).f4) x6_2).f2), .bool ((rd_T57 ((rd_T55 l0 x5_1).f4) x6_2).f3)] 57 (0, 0)) (bk_ BK296) k_ hk)); (case aO => exact (kr_ HO_4)); (case aS => exact (below_size (bw1_ HB GE296))); (case aL => have := LMc28.out; omega); intro v300 w31 ho hb hg hat; rw [← Ny299.out] at ho; replace BK296 := Aside0.mk (blk_grown (g := gb296) (o := .cells #[.string ((rd_T57 ((rd_T55 l0 x5_1).f4) x6_2).f0), .int .i64 ((rd_T57 ((rd_T55 l0 x5_1).f4) x6_2).f1), .string ((rd_T57 ((rd_T55 l0 x5_1).f4) x6_2).f2), .bool ((rd_T57 ((rd_T55 l0 x5_1).f4) x6_2).f3)] 57 (0, 0)) (bk_ BK296) hg (Kd.R_away HO_4.out (fun _ hk => hk))); replace HB := Aside0.mk (hb); have HO301 := Aside0.mk (ho); clear HO_4; clear ho hb hg hat)); try go_wp2_with (first | ((with_reducible refine gate_builtin (b := .append) (xs := #[.tmp 75, .tmp 77]) rfl ?_); at_builtin; refine Kd.R_append k57 (w0 := w) w.heap.size rfl (.tmp 75) (.tmp 77) 39 57 (.agg #[(.string ⟨#[]⟩), (.int .i64 0), (.string ⟨#[]⟩), (.bool false)]) 48 rfl Tryz.underlying39 info57 rfl (by decide) (by omega) (.slice Ao29 x4_2.length co29) x4_2 (⟨((rd_T57 ((rd_T55 l0 x5_1).f4) x6_2).f0), ((rd_T57 ((rd_T55 l0 x5_1).f4) x6_2).f1), ((rd_T57 ((rd_T55 l0 x5_1).f4) x6_2).f2), ((rd_T57 ((rd_T55 l0 x5_1).f4) x6_2).f3)⟩ : S57) [.string ((rd_T57 ((rd_T55 l0 x5_1).f4) x6_2).f0), .int .i64 ((rd_T57 ((rd_T55 l0 x5_1).f4) x6_2).f1), .string ((rd_T57 ((rd_T55 l0 x5_1).f4) x6_2).f2), .bool ((rd_T57 ((rd_T55 l0 x5_1).f4) x6_2).f3)] (fun k_ => k_ ≠ gb296) (fun _ => False) rfl rfl ?aP (fun _ hk => hk.elim) ?aF ?aO ?aB ?aS ?aL ?_; (case aP => exact k57_mkM _ _ _ (⟨((rd_T57 ((rd_T55 l0 x5_1).f4) x6_2).f0), ((rd_T57 ((rd_T55 l0 x5_1).f4) x6_2).f1), ((rd_T57 ((rd_T55 l0 x5_1).f4) x6_2).f2), ((rd_T57 ((rd_T55 l0 x5_1).f4) x6_2).f3)⟩ : S57)); (case aB => exact (bw1_ HB GE296)); (case aF => exact (fun k_ hk => Kd.freshB (g := gb296) (o := .cells #[.string ((rd_T57 ((rd_T55 l0 x5_1).f4) x6_2).f0), .int .i64 ((rd_T57 ((rd_T55 l0 x5_1).f4) x6_2).f1), .string ((rd_T57 ((rd_T55 l0 x5_1).f4) x6_2).f2), .bool ((rd_T57 ((rd_T55 l0 x5_1).f4) x6_2).f3)] 57 (0, 0)) (bk_ BK296) k_ hk)); (case aO => exact (kr_ HO_4)); (case aS => exact (below_size (bw1_ HB GE296))); (case aL => have := LMc28.out; omega); intro v300 w31 ho hb hg hat; rw [← Ny299.out] at ho; replace BK296 := Aside0.mk (blk_grown (g := gb296) (o := .cells #[.string ((rd_T57 ((rd_T55 l0 x5_1).f4) x6_2).f0), .int .i64 ((rd_T57 ((rd_T55 l0 x5_1).f4) x6_2).f1), .string ((rd_T57 ((rd_T55 l0 x5_1).f4) x6_2).f2), .bool ((rd_T57 ((rd_T55 l0 x5_1).f4) x6_2).f3)] 57 (0, 0)) (bk_ BK296) hg (Kd.R_away HO_4.out (fun _ hk => hk))); replace HB := Aside0.mk (hb); have HO301 := Aside0.mk (ho); clear HO_4; clear ho hb hg hat)))
       go_roundg k3
       case measure => have := HK1.out; have := HK2.out; have := HK3.out; omega
       case rel => exact ⟨(x3_2), (y299), (wrap64 (x6_2 + 1)), (by first | rfl | (simp; done) | (simp [*]; done)), (by first | rfl | (simp; done) | (simp [*]; done)), H', ⟨by have := HK1.out; have := HK2.out; have := HK3.out; omega⟩, ⟨by (with_reducible repeat (first | apply Kd.R_alloc | apply Kd.R_drewN | apply Kd.R_drew)); exact Kd.R_mono HO301.out (fun _ hk => trivial)⟩, ⟨bw1_ HB GE296⟩⟩}
       {
       rw [if_neg c28] at H
       exact absurd H (by simp)}}}}
     {
     rw [if_neg c12] at H
     have c12b0 : (((rd_T57 ((rd_T55 l0 x5_1).f4) x6_2).f1) == 2) = false := beq_eq_false_iff_ne.mpr c12
     have c12b1 : (((rd_T57 ((rd_T55 l0 x5_1).f4) x6_2).f1) != 2) = true := bne_iff_ne.mpr c12
     have H' := Aside0.mk H
     clear H
     have p293 : 0 ≤ (x5_1 : Int) := dA_
     have q293 : x5_1 < (l0.length : Int) := dA_
     obtain ⟨ad293, A293_2, c293_2, A293_4, c293_4, e293, hx293_0, hx293_1, hx293_2, hx293_3, hx293_4, hl293_2, hi293_2, hl293_4, hi293_4⟩ := at_T55 HR0.out x5_1 p293 q293
     cases e293
     replace hx293_0 := hX_ HB hx293_0
     replace hx293_1 := hX_ HB hx293_1
     replace hx293_2 := hX_ HB hx293_2
     replace hx293_3 := hX_ HB hx293_3
     replace hx293_4 := hX_ HB hx293_4
     have HR293_2 := Aside0.mk hi293_2
     have HC293_2 := Aside0.mk hl293_2
     clear hi293_2 hl293_2
     have HR293_4 := Aside0.mk hi293_4
     have HC293_4 := Aside0.mk hl293_4
     clear hi293_4 hl293_4
     replace p293 := eq_true p293
     replace q293 := eq_true q293
     have p294 : 0 ≤ (x5_1 : Int) := dA_
     have q294 : x5_1 < (l0.length : Int) := dA_
     obtain ⟨ad294, A294_2, c294_2, A294_4, c294_4, e294, hx294_0, hx294_1, hx294_2, hx294_3, hx294_4, hl294_2, hi294_2, hl294_4, hi294_4⟩ := at_T55 HR0.out x5_1 p294 q294
     obtain rfl : ad293 = ad294 := (by injection e294)
     replace hx294_0 := hX_ HB hx294_0
     replace hx294_1 := hX_ HB hx294_1
     replace hx294_2 := hX_ HB hx294_2
     replace hx294_3 := hX_ HB hx294_3
     replace hx294_4 := hX_ HB hx294_4
     have HR294_2 := Aside0.mk hi294_2
     have HC294_2 := Aside0.mk hl294_2
     clear hi294_2 hl294_2
     have HR294_4 := Aside0.mk hi294_4
     have HC294_4 := Aside0.mk hl294_4
     clear hi294_4 hl294_4
     replace p294 := eq_true p294
     replace q294 := eq_true q294
     have ea_ := Option.some.inj (hx293_2.symm.trans hx294_2)
     injection ea_ with ea_ en_ ec_
     subst ea_
     subst ec_
     clear en_
     have ea_ := Option.some.inj (hx293_4.symm.trans hx294_4)
     injection ea_ with ea_ en_ ec_
     subst ea_
     subst ec_
     clear en_
     have p295 : 0 ≤ (x6_2 : Int) := dA_
     have q295 : x6_2 < (((rd_T55 l0 x5_1).f4).length : Int) := dA_
     obtain ⟨ad295, e295, hx295_0, hx295_1, hx295_2, hx295_3⟩ := at_T57 HR294_4.out x6_2 p295 q295
     cases e295
     replace hx295_0 := hX_ HB hx295_0
     replace hx295_1 := hX_ HB hx295_1
     replace hx295_2 := hX_ HB hx295_2
     replace hx295_3 := hX_ HB hx295_3
     replace p295 := eq_true p295
     replace q295 := eq_true q295
     go_wp2_with (first | ((with_reducible refine gate_dst (N := 7) rfl ?_); refine bE_ 7 #[.string (⟨#[]⟩ : ByteArray), .int .i64 0, .string (⟨#[]⟩ : ByteArray), .bool false] 57 ?_; intro gb296 hg w32 hbox hb; replace HO_4 := Aside0.mk (Kd.R_below (Kd.R_elderB (kr_ HO_4) gb296 (Nat.le_of_eq hg.symm)) hb); have BK296 := Aside0.mk (hbox); have GW296 := Aside0.mk (ge_ hg (bw_ HB)); have GE296 := Aside0.mk (ge_ hg (bw_ HB)); replace HB := Aside0.mk (below_step (bw_ HB) hb); clear hb hbox hg; have hcz33_0 := cz_ BK296 0 (.string (⟨#[]⟩ : ByteArray)); have hcz33_1 := cz_ BK296 1 (.int .i64 0); have hcz33_2 := cz_ BK296 2 (.string (⟨#[]⟩ : ByteArray)); have hcz33_3 := cz_ BK296 3 (.bool false); have hfz33_0 := blk_frozen BK296.out 0; have hfz33_1 := blk_frozen BK296.out 1; have hfz33_2 := blk_frozen BK296.out 2; have hfz33_3 := blk_frozen BK296.out 3))
     repeat (go_quiet (first | ((with_reducible refine gate_dst (N := 7) rfl ?_); refine bE_ 7 #[.string (⟨#[]⟩ : ByteArray), .int .i64 0, .string (⟨#[]⟩ : ByteArray), .bool false] 57 ?_; intro gb296 hg w32 hbox hb; replace HO_4 := Aside0.mk (Kd.R_below (Kd.R_elderB (kr_ HO_4) gb296 (Nat.le_of_eq hg.symm)) hb); have BK296 := Aside0.mk (hbox); have GW296 := Aside0.mk (ge_ hg (bw_ HB)); have GE296 := Aside0.mk (ge_ hg (bw_ HB)); replace HB := Aside0.mk (below_step (bw_ HB) hb); clear hb hbox hg; have hcz33_0 := cz_ BK296 0 (.string (⟨#[]⟩ : ByteArray)); have hcz33_1 := cz_ BK296 1 (.int .i64 0); have hcz33_2 := cz_ BK296 2 (.string (⟨#[]⟩ : ByteArray)); have hcz33_3 := cz_ BK296 3 (.bool false); have hfz33_0 := blk_frozen BK296.out 0; have hfz33_1 := blk_frozen BK296.out 1; have hfz33_2 := blk_frozen BK296.out 2; have hfz33_3 := blk_frozen BK296.out 3)); try go_wp2_with (first | ((with_reducible refine gate_dst (N := 7) rfl ?_); refine bE_ 7 #[.string (⟨#[]⟩ : ByteArray), .int .i64 0, .string (⟨#[]⟩ : ByteArray), .bool false] 57 ?_; intro gb296 hg w32 hbox hb; replace HO_4 := Aside0.mk (Kd.R_below (Kd.R_elderB (kr_ HO_4) gb296 (Nat.le_of_eq hg.symm)) hb); have BK296 := Aside0.mk (hbox); have GW296 := Aside0.mk (ge_ hg (bw_ HB)); have GE296 := Aside0.mk (ge_ hg (bw_ HB)); replace HB := Aside0.mk (below_step (bw_ HB) hb); clear hb hbox hg; have hcz33_0 := cz_ BK296 0 (.string (⟨#[]⟩ : ByteArray)); have hcz33_1 := cz_ BK296 1 (.int .i64 0); have hcz33_2 := cz_ BK296 2 (.string (⟨#[]⟩ : ByteArray)); have hcz33_3 := cz_ BK296 3 (.bool false); have hfz33_0 := blk_frozen BK296.out 0; have hfz33_1 := blk_frozen BK296.out 1; have hfz33_2 := blk_frozen BK296.out 2; have hfz33_3 := blk_frozen BK296.out 3)))
     go_roundg k2
     case measure => have := HK1.out; have := HK2.out; omega
     case rel => exact ⟨(x3_2), (x4_2), (wrap64 (x6_2 + 1)), (by first | rfl | (simp; done) | (simp [*]; done)), (by first | rfl | (simp; done) | (simp [*]; done)), H', ⟨by have := HK1.out; have := HK2.out; omega⟩, ⟨by (with_reducible repeat (first | apply Kd.R_alloc | apply Kd.R_drewN | apply Kd.R_drew)); exact Kd.R_mono (Kd.R_far (p := ⟨gb296, 3, none⟩) (Kd.R_far (p := ⟨gb296, 2, none⟩) (Kd.R_far (p := ⟨gb296, 1, none⟩) (Kd.R_far (p := ⟨gb296, 0, none⟩) (Kd.R_mono HO_4.out (fun k_ hk => (⟨hk, hk.2⟩ : _ ∧ k_ ≠ gb296))) (fun _ hk => hk.2) (.string ((rd_T57 ((rd_T55 l0 x5_1).f4) x6_2).f0))) (fun _ hk => hk.2) (.int .i64 ((rd_T57 ((rd_T55 l0 x5_1).f4) x6_2).f1))) (fun _ hk => hk.2) (.string ((rd_T57 ((rd_T55 l0 x5_1).f4) x6_2).f2))) (fun _ hk => hk.2) (.bool ((rd_T57 ((rd_T55 l0 x5_1).f4) x6_2).f3))) (fun _ hk => trivial)⟩, ⟨bw1_ HB GE296⟩⟩}}
     {
     rw [if_neg c11] at H
     exact absurd H (by simp)}}
     {
     rw [if_neg c10] at H
     have c10b0 := decide_eq_false c10
     (try (have c10b0' := c10b0; simp only [hl294_4] at c10b0'))
     clear c10
     have H' := Aside0.mk H
     clear H
     have p293 : 0 ≤ (x5_1 : Int) := dA_
     have q293 : x5_1 < (l0.length : Int) := dA_
     obtain ⟨ad293, A293_2, c293_2, A293_4, c293_4, e293, hx293_0, hx293_1, hx293_2, hx293_3, hx293_4, hl293_2, hi293_2, hl293_4, hi293_4⟩ := at_T55 HR0.out x5_1 p293 q293
     cases e293
     replace hx293_0 := hX_ HB hx293_0
     replace hx293_1 := hX_ HB hx293_1
     replace hx293_2 := hX_ HB hx293_2
     replace hx293_3 := hX_ HB hx293_3
     replace hx293_4 := hX_ HB hx293_4
     have HR293_2 := Aside0.mk hi293_2
     have HC293_2 := Aside0.mk hl293_2
     clear hi293_2 hl293_2
     have HR293_4 := Aside0.mk hi293_4
     have HC293_4 := Aside0.mk hl293_4
     clear hi293_4 hl293_4
     replace p293 := eq_true p293
     replace q293 := eq_true q293
     go_wp2
     repeat (go_quiet (fail); try go_wp2)
     go_roundg k2
     case measure => have := HK1.out; have := HK2.out; omega
     case rel => exact ⟨(x3_2), (x4_2), (wrap64 (x5_1 + 1)), (by first | rfl | (simp; done) | (simp [*]; done)), (by first | rfl | (simp; done) | (simp [*]; done)), H', ⟨by have := HK1.out; have := HK2.out; omega⟩, ⟨kr_ HO_4⟩, ⟨bw_ HB⟩⟩}}
     {
     rw [if_neg c9] at H
     exact absurd H (by simp)}}
     {
     rw [if_neg c8] at H
     exact absurd H (by simp)}}
   {
   rw [if_neg c7] at H
   have c7b0 := decide_eq_false c7
   (try (have c7b0' := c7b0; simp only [hl294_4] at c7b0'))
   clear c7
   obtain rfl := Option.some.inj H
   go_wp2
   repeat (go_quiet (fail); try go_wp2)
   go_ret
   exact ⟨eR_, bw_ HB⟩}}
 {
 replace c3 := Bool.eq_false_iff.mpr c3
 subst c3
 rw [if_neg (show ¬ (false = true) by decide)] at H
 obtain rfl := Option.some.inj H
 go_enter Tryz.func9, Tryz.ntmps9
 go_wp2_with (first | (go_at_call 33; (with_reducible refine (spec_StoreOk.calls k _ _ l0 false _ ?side1 ?side2 A2.out).mono ?_); (case side1 => repeat (first | exact HR0.out | (with_reducible refine Kd.C_alloc ?_ _) | (with_reducible refine Kd.C_drewN ?_ _) | (with_reducible refine Kd.C_drew ?_))); (case side2 => exact HC0.out); rintro e w34 ⟨rfl, hb⟩; replace HB := Aside0.mk (below_step (bw_ HB) hb); (try clear hb); (try clear hb2); (try clear hk); (try clear hi)))
 repeat (go_quiet (first | (go_at_call 33; (with_reducible refine (spec_StoreOk.calls k _ _ l0 false _ ?side1 ?side2 A2.out).mono ?_); (case side1 => repeat (first | exact HR0.out | (with_reducible refine Kd.C_alloc ?_ _) | (with_reducible refine Kd.C_drewN ?_ _) | (with_reducible refine Kd.C_drew ?_))); (case side2 => exact HC0.out); rintro e w34 ⟨rfl, hb⟩; replace HB := Aside0.mk (below_step (bw_ HB) hb); (try clear hb); (try clear hb2); (try clear hk); (try clear hi))); try go_wp2_with (first | (go_at_call 33; (with_reducible refine (spec_StoreOk.calls k _ _ l0 false _ ?side1 ?side2 A2.out).mono ?_); (case side1 => repeat (first | exact HR0.out | (with_reducible refine Kd.C_alloc ?_ _) | (with_reducible refine Kd.C_drewN ?_ _) | (with_reducible refine Kd.C_drew ?_))); (case side2 => exact HC0.out); rintro e w34 ⟨rfl, hb⟩; replace HB := Aside0.mk (below_step (bw_ HB) hb); (try clear hb); (try clear hb2); (try clear hk); (try clear hi))))
 go_ret
 exact ⟨eR_, bw_ HB⟩
}
end Go.Proofs.YtikjbfjnbhaljaaGreatDoor.P
end

section
namespace Go.Proofs.YtikjbfjnbhaljaaGreatDoor.P
open Go.RowKit Go.Proofs.YtikjbfjnbhaljaaGreatDoorW.PrintWords Go.Proofs.YtikjbfjnbhaljaaGreatDoorW.PrintLast Go.Proofs.YtikjbfjnbhaljaaGreatDoorW.PrintMore Go.Proofs.YtikjbfjnbhaljaaGreatDoorM
attribute [local go_sem] max2_int min2_int max_two min_two max_three min_three max_four min_four
set_option linter.unusedVariables false
set_option linter.unusedSimpArgs false
def laws_FnExactOptimise.f (k : Nat) (l0 : List (S52)) : Option (Bool) := (laws_szItemS.f k l0 1048576).bind fun t489 => (if t489 < 0 then (some true) else ((laws_toItemS.f k l0).bind fun t490 => ((spec_Optimise.f k t490).bind fun t493 => ((laws_toItemS.f k l0).bind fun t494 => ((impl_Optimise.f k t494).bind fun t497 => (if t497 = t493 then ((laws_toItemS.f k l0).bind fun t498 => ((laws_eqItemS.f k t494 t498).bind fun t501 => (if t501 = true then (some true) else (some false)))) else (some false)))))))
set_option maxHeartbeats 8000000 in
set_option maxRecDepth 100000 in
theorem laws_FnExactOptimise.calls (k : Nat) (A0 : Option Addr) (c0 : Nat) (l0 : List (S52)) (r : Bool) (w : World) (hE : EnvW w) (hr0 : Kd.C k52 w A0 l0.length l0) (hc0 : l0.length ≤ c0) (h : laws_FnExactOptimise.f k l0 = some r) :
 Calls Tryz.prog 3 #[.slice A0 l0.length c0] w fun e w' => e = .returned (.bool r) ∧ Below w.heap.size w w' := by
 have HE := Aside0.mk hE
 clear hE
 have HR0 := Aside0.mk hr0
 have HC0 := Aside0.mk hc0
 clear hr0 hc0
 have HB := Aside0.mk (Below.refl w.heap.size w)
 have H : ((laws_szItemS.f k l0 1048576).bind fun t489 => (if t489 < 0 then (some true) else ((laws_toItemS.f k l0).bind fun t490 => ((spec_Optimise.f k t490).bind fun t493 => ((laws_toItemS.f k l0).bind fun t494 => ((impl_Optimise.f k t494).bind fun t497 => (if t497 = t493 then ((laws_toItemS.f k l0).bind fun t498 => ((laws_eqItemS.f k t494 t498).bind fun t501 => (if t501 = true then (some true) else (some false)))) else (some false)))))))) = some r := h
 clear h
 replace H := Option.bind_eq_some_iff.mp H
 obtain ⟨t489, A20, H⟩ := H
 have A2 := Aside0.mk A20
 clear A20
 by_cases c3 : t489 < 0
 {
 rw [if_pos c3] at H
 have c3b0 := decide_eq_true c3
 clear c3
 obtain rfl := Option.some.inj H
 go_enter Tryz.func3, Tryz.ntmps3
 go_wp2_with (first | ((with_reducible refine gate_callee (f := 8) rfl ?_); refine gL_ (some 9) Tryz.func8 #[.slice A0 l0.length c0, .int .i64 1048576] ?_; (with_reducible refine (laws_szItemS.calls k _ _ l0 1048576 t489 _ ?side1 ?side2 A2.out).mono ?_); (case side1 => repeat (first | exact HR0.out | (with_reducible refine Kd.C_alloc ?_ _) | (with_reducible refine Kd.C_drewN ?_ _) | (with_reducible refine Kd.C_drew ?_))); (case side2 => exact HC0.out); rintro e w4 ⟨rfl, hb⟩; refine ⟨_, rfl, ?_⟩; replace HB := Aside0.mk (below_step (bw_ HB) hb); (try clear hb); (try clear hb2); (try clear hk); (try clear hi)))
 go_ret
 exact ⟨eR_, bw_ HB⟩}
 {
 rw [if_neg c3] at H
 have c3b0 := decide_eq_false c3
 clear c3
 replace H := Option.bind_eq_some_iff.mp H
 obtain ⟨t490, A50, H⟩ := H
 have A5 := Aside0.mk A50
 clear A50
 replace H := Option.bind_eq_some_iff.mp H
 obtain ⟨t493, A60, H⟩ := H
 have A6 := Aside0.mk A60
 clear A60
 replace H := Option.bind_eq_some_iff.mp H
 obtain ⟨t494, A70, H⟩ := H
 have A7 := Aside0.mk A70
 clear A70
 replace H := Option.bind_eq_some_iff.mp H
 obtain ⟨t497, A80, H⟩ := H
 have A8 := Aside0.mk A80
 clear A80
 by_cases c9 : t497 = t493
 {
 rw [if_pos c9] at H
 have c9b0 : (t497 == t493) = true := beq_iff_eq.mpr c9
 have c9b1 : (t497 != t493) = false := bne_eq_false_iff_eq.mpr c9
 clear c9
 replace H := Option.bind_eq_some_iff.mp H
 obtain ⟨t498, A100, H⟩ := H
 have A10 := Aside0.mk A100
 clear A100
 replace H := Option.bind_eq_some_iff.mp H
 obtain ⟨t501, A110, H⟩ := H
 have A11 := Aside0.mk A110
 clear A110
 by_cases c12 : t501 = true
 {
 subst c12
 rw [if_pos rfl] at H
 obtain rfl := Option.some.inj H
 go_enter Tryz.func3, Tryz.ntmps3
 go_wp2_with (first | ((with_reducible refine gate_callee (f := 8) rfl ?_); refine gL_ (some 9) Tryz.func8 #[.slice A0 l0.length c0, .int .i64 1048576] ?_; (with_reducible refine (laws_szItemS.calls k _ _ l0 1048576 t489 _ ?side1 ?side2 A2.out).mono ?_); (case side1 => repeat (first | exact HR0.out | (with_reducible refine Kd.C_alloc ?_ _) | (with_reducible refine Kd.C_drewN ?_ _) | (with_reducible refine Kd.C_drew ?_))); (case side2 => exact HC0.out); rintro e w13 ⟨rfl, hb⟩; refine ⟨_, rfl, ?_⟩; replace HB := Aside0.mk (below_step (bw_ HB) hb); (try clear hb); (try clear hb2); (try clear hk); (try clear hi)) | ((with_reducible refine gate_callee (f := 10) rfl ?_); refine gL_ (some 13) Tryz.func10 #[.slice A0 l0.length c0] ?_; (with_reducible refine (laws_toItemS.calls k _ _ l0 t490 _ ?side1 ?side2 A5.out).mono ?_); (case side1 => exact cS_ HR0 HB); (case side2 => exact HC0.out); rintro e w14 ⟨v491, rfl, ho0, hb⟩; refine ⟨_, rfl, ?_⟩; have HO492 := Aside0.mk (Kd.S_lower ho0 (below_size (bw_ HB))); replace HB := Aside0.mk (below_step (bw_ HB) hb); (try clear hb); (try clear hb2); (try clear hk); (try clear hi); (try clear ho0); obtain ⟨Ao15, co15, eo15⟩ := Kd.S_slice HO492.out; subst eo15) | ((with_reducible refine gate_callee (f := 9) rfl ?_); refine gL_ (some 14) Tryz.func9 #[.slice Ao15 t490.length co15] ?_; (with_reducible refine (spec_Optimise.calls k _ _ t490 t493 _ ?side1 ?side2 A6.out).mono ?_); (case side1 => repeat (first | exact (Kd.S_reads' HO492.out).2.2 | (with_reducible refine Kd.C_alloc ?_ _) | (with_reducible refine Kd.C_drewN ?_ _) | (with_reducible refine Kd.C_drew ?_))); (case side2 => exact (Kd.S_reads' HO492.out).2.1); rintro e w16 ⟨rfl, hb⟩; refine ⟨_, rfl, ?_⟩; replace HO492 := Aside0.mk (Kd.S_below (ks_ HO492) hb); replace HB := Aside0.mk (below_step (bw_ HB) hb); (try clear hb); (try clear hb2); (try clear hk); (try clear hi)) | ((with_reducible refine gate_callee (f := 10) rfl ?_); refine gL_ (some 16) Tryz.func10 #[.slice A0 l0.length c0] ?_; (with_reducible refine (laws_toItemS.calls k _ _ l0 t494 _ ?side1 ?side2 A7.out).mono ?_); (case side1 => exact cS_ HR0 HB); (case side2 => exact HC0.out); rintro e w17 ⟨v495, rfl, ho0, hb⟩; refine ⟨_, rfl, ?_⟩; have HO496 := Aside0.mk (Kd.S_lower (Kd.S_new' ho0 (Kd.S_lt (ks_ HO492))) (below_size (bw_ HB))); replace HO492 := Aside0.mk (Kd.S_elder' (ks_ HO492) (Kd.S_base ho0) hb); replace HB := Aside0.mk (below_step (bw_ HB) hb); (try clear hb); (try clear hb2); (try clear hk); (try clear hi); (try clear ho0); obtain ⟨Ao18, co18, eo18⟩ := Kd.S_slice HO496.out; subst eo18) | ((with_reducible refine gate_callee (f := 11) rfl ?_); refine gL_ (some 18) Tryz.func11 #[.slice Ao18 t494.length co18] ?_; (with_reducible refine (impl_Optimise.calls k _ _ t494 t497 _ ?side1 ?side2 ?side3 A8.out).mono ?_); (case side1 => refine EnvW.below HE.out ?_; repeat (first | (with_reducible first | exact HB.out | apply below_alloc | apply pw_below_drewN | apply below_drew1) | exact HB.out)); (case side2 => repeat (first | exact (Kd.S_reads' HO496.out).2.2 | (with_reducible refine Kd.C_alloc ?_ _) | (with_reducible refine Kd.C_drewN ?_ _) | (with_reducible refine Kd.C_drew ?_))); (case side3 => exact (Kd.S_reads' HO496.out).2.1); rintro e w19 ⟨rfl, hb⟩; refine ⟨_, rfl, ?_⟩; replace HO492 := Aside0.mk (Kd.S_below (ks_ HO492) hb); replace HO496 := Aside0.mk (Kd.S_below (ks_ HO496) hb); replace HB := Aside0.mk (below_step (bw_ HB) hb); (try clear hb); (try clear hb2); (try clear hk); (try clear hi)) | ((with_reducible refine gate_callee (f := 10) rfl ?_); refine gL_ (some 24) Tryz.func10 #[.slice A0 l0.length c0] ?_; (with_reducible refine (laws_toItemS.calls k _ _ l0 t498 _ ?side1 ?side2 A10.out).mono ?_); (case side1 => exact cS_ HR0 HB); (case side2 => exact HC0.out); rintro e w20 ⟨v499, rfl, ho0, hb⟩; refine ⟨_, rfl, ?_⟩; have HO500 := Aside0.mk (Kd.S_lower (Kd.S_new' (Kd.S_new' ho0 (Kd.S_lt (ks_ HO492))) (Kd.S_lt (ks_ HO496))) (below_size (bw_ HB))); replace HO492 := Aside0.mk (Kd.S_elder' (ks_ HO492) (Kd.S_base ho0) hb); replace HO496 := Aside0.mk (Kd.S_elder' (ks_ HO496) (Kd.S_base ho0) hb); replace HB := Aside0.mk (below_step (bw_ HB) hb); (try clear hb); (try clear hb2); (try clear hk); (try clear hi); (try clear ho0); obtain ⟨Ao21, co21, eo21⟩ := Kd.S_slice HO500.out; subst eo21) | ((with_reducible refine gate_callee (f := 12) rfl ?_); refine gL_ (some 25) Tryz.func12 #[.slice Ao18 t494.length co18, .slice Ao21 t498.length co21] ?_; (with_reducible refine (laws_eqItemS.calls k _ _ t494 _ _ t498 true _ ?side1 ?side2 ?side3 ?side4 A11.out).mono ?_); (case side1 => repeat (first | exact (Kd.S_reads' HO496.out).2.2 | (with_reducible refine Kd.C_alloc ?_ _) | (with_reducible refine Kd.C_drewN ?_ _) | (with_reducible refine Kd.C_drew ?_))); (case side2 => exact (Kd.S_reads' HO496.out).2.1); (case side3 => repeat (first | exact (Kd.S_reads' HO500.out).2.2 | (with_reducible refine Kd.C_alloc ?_ _) | (with_reducible refine Kd.C_drewN ?_ _) | (with_reducible refine Kd.C_drew ?_))); (case side4 => exact (Kd.S_reads' HO500.out).2.1); rintro e w22 ⟨rfl, hb⟩; refine ⟨_, rfl, ?_⟩; replace HO492 := Aside0.mk (Kd.S_below (ks_ HO492) hb); replace HO496 := Aside0.mk (Kd.S_below (ks_ HO496) hb); replace HO500 := Aside0.mk (Kd.S_below (ks_ HO500) hb); replace HB := Aside0.mk (below_step (bw_ HB) hb); (try clear hb); (try clear hb2); (try clear hk); (try clear hi)))
 go_ret
 exact ⟨eR_, bw_ HB⟩}
 {
 replace c12 := Bool.eq_false_iff.mpr c12
 subst c12
 rw [if_neg (show ¬ (false = true) by decide)] at H
 obtain rfl := Option.some.inj H
 go_enter Tryz.func3, Tryz.ntmps3
 go_wp2_with (first | ((with_reducible refine gate_callee (f := 8) rfl ?_); refine gL_ (some 9) Tryz.func8 #[.slice A0 l0.length c0, .int .i64 1048576] ?_; (with_reducible refine (laws_szItemS.calls k _ _ l0 1048576 t489 _ ?side1 ?side2 A2.out).mono ?_); (case side1 => repeat (first | exact HR0.out | (with_reducible refine Kd.C_alloc ?_ _) | (with_reducible refine Kd.C_drewN ?_ _) | (with_reducible refine Kd.C_drew ?_))); (case side2 => exact HC0.out); rintro e w23 ⟨rfl, hb⟩; refine ⟨_, rfl, ?_⟩; replace HB := Aside0.mk (below_step (bw_ HB) hb); (try clear hb); (try clear hb2); (try clear hk); (try clear hi)) | ((with_reducible refine gate_callee (f := 10) rfl ?_); refine gL_ (some 13) Tryz.func10 #[.slice A0 l0.length c0] ?_; (with_reducible refine (laws_toItemS.calls k _ _ l0 t490 _ ?side1 ?side2 A5.out).mono ?_); (case side1 => exact cS_ HR0 HB); (case side2 => exact HC0.out); rintro e w24 ⟨v491, rfl, ho0, hb⟩; refine ⟨_, rfl, ?_⟩; have HO492 := Aside0.mk (Kd.S_lower ho0 (below_size (bw_ HB))); replace HB := Aside0.mk (below_step (bw_ HB) hb); (try clear hb); (try clear hb2); (try clear hk); (try clear hi); (try clear ho0); obtain ⟨Ao25, co25, eo25⟩ := Kd.S_slice HO492.out; subst eo25) | ((with_reducible refine gate_callee (f := 9) rfl ?_); refine gL_ (some 14) Tryz.func9 #[.slice Ao25 t490.length co25] ?_; (with_reducible refine (spec_Optimise.calls k _ _ t490 t493 _ ?side1 ?side2 A6.out).mono ?_); (case side1 => repeat (first | exact (Kd.S_reads' HO492.out).2.2 | (with_reducible refine Kd.C_alloc ?_ _) | (with_reducible refine Kd.C_drewN ?_ _) | (with_reducible refine Kd.C_drew ?_))); (case side2 => exact (Kd.S_reads' HO492.out).2.1); rintro e w26 ⟨rfl, hb⟩; refine ⟨_, rfl, ?_⟩; replace HO492 := Aside0.mk (Kd.S_below (ks_ HO492) hb); replace HB := Aside0.mk (below_step (bw_ HB) hb); (try clear hb); (try clear hb2); (try clear hk); (try clear hi)) | ((with_reducible refine gate_callee (f := 10) rfl ?_); refine gL_ (some 16) Tryz.func10 #[.slice A0 l0.length c0] ?_; (with_reducible refine (laws_toItemS.calls k _ _ l0 t494 _ ?side1 ?side2 A7.out).mono ?_); (case side1 => exact cS_ HR0 HB); (case side2 => exact HC0.out); rintro e w27 ⟨v495, rfl, ho0, hb⟩; refine ⟨_, rfl, ?_⟩; have HO496 := Aside0.mk (Kd.S_lower (Kd.S_new' ho0 (Kd.S_lt (ks_ HO492))) (below_size (bw_ HB))); replace HO492 := Aside0.mk (Kd.S_elder' (ks_ HO492) (Kd.S_base ho0) hb); replace HB := Aside0.mk (below_step (bw_ HB) hb); (try clear hb); (try clear hb2); (try clear hk); (try clear hi); (try clear ho0); obtain ⟨Ao28, co28, eo28⟩ := Kd.S_slice HO496.out; subst eo28) | ((with_reducible refine gate_callee (f := 11) rfl ?_); refine gL_ (some 18) Tryz.func11 #[.slice Ao28 t494.length co28] ?_; (with_reducible refine (impl_Optimise.calls k _ _ t494 t497 _ ?side1 ?side2 ?side3 A8.out).mono ?_); (case side1 => refine EnvW.below HE.out ?_; repeat (first | (with_reducible first | exact HB.out | apply below_alloc | apply pw_below_drewN | apply below_drew1) | exact HB.out)); (case side2 => repeat (first | exact (Kd.S_reads' HO496.out).2.2 | (with_reducible refine Kd.C_alloc ?_ _) | (with_reducible refine Kd.C_drewN ?_ _) | (with_reducible refine Kd.C_drew ?_))); (case side3 => exact (Kd.S_reads' HO496.out).2.1); rintro e w29 ⟨rfl, hb⟩; refine ⟨_, rfl, ?_⟩; replace HO492 := Aside0.mk (Kd.S_below (ks_ HO492) hb); replace HO496 := Aside0.mk (Kd.S_below (ks_ HO496) hb); replace HB := Aside0.mk (below_step (bw_ HB) hb); (try clear hb); (try clear hb2); (try clear hk); (try clear hi)) | ((with_reducible refine gate_callee (f := 10) rfl ?_); refine gL_ (some 24) Tryz.func10 #[.slice A0 l0.length c0] ?_; (with_reducible refine (laws_toItemS.calls k _ _ l0 t498 _ ?side1 ?side2 A10.out).mono ?_); (case side1 => exact cS_ HR0 HB); (case side2 => exact HC0.out); rintro e w30 ⟨v499, rfl, ho0, hb⟩; refine ⟨_, rfl, ?_⟩; have HO500 := Aside0.mk (Kd.S_lower (Kd.S_new' (Kd.S_new' ho0 (Kd.S_lt (ks_ HO492))) (Kd.S_lt (ks_ HO496))) (below_size (bw_ HB))); replace HO492 := Aside0.mk (Kd.S_elder' (ks_ HO492) (Kd.S_base ho0) hb); replace HO496 := Aside0.mk (Kd.S_elder' (ks_ HO496) (Kd.S_base ho0) hb); replace HB := Aside0.mk (below_step (bw_ HB) hb); (try clear hb); (try clear hb2); (try clear hk); (try clear hi); (try clear ho0); obtain ⟨Ao31, co31, eo31⟩ := Kd.S_slice HO500.out; subst eo31) | ((with_reducible refine gate_callee (f := 12) rfl ?_); refine gL_ (some 25) Tryz.func12 #[.slice Ao28 t494.length co28, .slice Ao31 t498.length co31] ?_; (with_reducible refine (laws_eqItemS.calls k _ _ t494 _ _ t498 false _ ?side1 ?side2 ?side3 ?side4 A11.out).mono ?_); (case side1 => repeat (first | exact (Kd.S_reads' HO496.out).2.2 | (with_reducible refine Kd.C_alloc ?_ _) | (with_reducible refine Kd.C_drewN ?_ _) | (with_reducible refine Kd.C_drew ?_))); (case side2 => exact (Kd.S_reads' HO496.out).2.1); (case side3 => repeat (first | exact (Kd.S_reads' HO500.out).2.2 | (with_reducible refine Kd.C_alloc ?_ _) | (with_reducible refine Kd.C_drewN ?_ _) | (with_reducible refine Kd.C_drew ?_))); (case side4 => exact (Kd.S_reads' HO500.out).2.1); rintro e w32 ⟨rfl, hb⟩; refine ⟨_, rfl, ?_⟩; replace HO492 := Aside0.mk (Kd.S_below (ks_ HO492) hb); replace HO496 := Aside0.mk (Kd.S_below (ks_ HO496) hb); replace HO500 := Aside0.mk (Kd.S_below (ks_ HO500) hb); replace HB := Aside0.mk (below_step (bw_ HB) hb); (try clear hb); (try clear hb2); (try clear hk); (try clear hi)))
 go_ret
 exact ⟨eR_, bw_ HB⟩}}
 {
 rw [if_neg c9] at H
 have c9b0 : (t497 == t493) = false := beq_eq_false_iff_ne.mpr c9
 have c9b1 : (t497 != t493) = true := bne_iff_ne.mpr c9
 obtain rfl := Option.some.inj H
 go_enter Tryz.func3, Tryz.ntmps3
 go_wp2_with (first | ((with_reducible refine gate_callee (f := 8) rfl ?_); refine gL_ (some 9) Tryz.func8 #[.slice A0 l0.length c0, .int .i64 1048576] ?_; (with_reducible refine (laws_szItemS.calls k _ _ l0 1048576 t489 _ ?side1 ?side2 A2.out).mono ?_); (case side1 => repeat (first | exact HR0.out | (with_reducible refine Kd.C_alloc ?_ _) | (with_reducible refine Kd.C_drewN ?_ _) | (with_reducible refine Kd.C_drew ?_))); (case side2 => exact HC0.out); rintro e w33 ⟨rfl, hb⟩; refine ⟨_, rfl, ?_⟩; replace HB := Aside0.mk (below_step (bw_ HB) hb); (try clear hb); (try clear hb2); (try clear hk); (try clear hi)) | ((with_reducible refine gate_callee (f := 10) rfl ?_); refine gL_ (some 13) Tryz.func10 #[.slice A0 l0.length c0] ?_; (with_reducible refine (laws_toItemS.calls k _ _ l0 t490 _ ?side1 ?side2 A5.out).mono ?_); (case side1 => exact cS_ HR0 HB); (case side2 => exact HC0.out); rintro e w34 ⟨v491, rfl, ho0, hb⟩; refine ⟨_, rfl, ?_⟩; have HO492 := Aside0.mk (Kd.S_lower ho0 (below_size (bw_ HB))); replace HB := Aside0.mk (below_step (bw_ HB) hb); (try clear hb); (try clear hb2); (try clear hk); (try clear hi); (try clear ho0); obtain ⟨Ao35, co35, eo35⟩ := Kd.S_slice HO492.out; subst eo35) | ((with_reducible refine gate_callee (f := 9) rfl ?_); refine gL_ (some 14) Tryz.func9 #[.slice Ao35 t490.length co35] ?_; (with_reducible refine (spec_Optimise.calls k _ _ t490 t493 _ ?side1 ?side2 A6.out).mono ?_); (case side1 => repeat (first | exact (Kd.S_reads' HO492.out).2.2 | (with_reducible refine Kd.C_alloc ?_ _) | (with_reducible refine Kd.C_drewN ?_ _) | (with_reducible refine Kd.C_drew ?_))); (case side2 => exact (Kd.S_reads' HO492.out).2.1); rintro e w36 ⟨rfl, hb⟩; refine ⟨_, rfl, ?_⟩; replace HO492 := Aside0.mk (Kd.S_below (ks_ HO492) hb); replace HB := Aside0.mk (below_step (bw_ HB) hb); (try clear hb); (try clear hb2); (try clear hk); (try clear hi)) | ((with_reducible refine gate_callee (f := 10) rfl ?_); refine gL_ (some 16) Tryz.func10 #[.slice A0 l0.length c0] ?_; (with_reducible refine (laws_toItemS.calls k _ _ l0 t494 _ ?side1 ?side2 A7.out).mono ?_); (case side1 => exact cS_ HR0 HB); (case side2 => exact HC0.out); rintro e w37 ⟨v495, rfl, ho0, hb⟩; refine ⟨_, rfl, ?_⟩; have HO496 := Aside0.mk (Kd.S_lower (Kd.S_new' ho0 (Kd.S_lt (ks_ HO492))) (below_size (bw_ HB))); replace HO492 := Aside0.mk (Kd.S_elder' (ks_ HO492) (Kd.S_base ho0) hb); replace HB := Aside0.mk (below_step (bw_ HB) hb); (try clear hb); (try clear hb2); (try clear hk); (try clear hi); (try clear ho0); obtain ⟨Ao38, co38, eo38⟩ := Kd.S_slice HO496.out; subst eo38) | ((with_reducible refine gate_callee (f := 11) rfl ?_); refine gL_ (some 18) Tryz.func11 #[.slice Ao38 t494.length co38] ?_; (with_reducible refine (impl_Optimise.calls k _ _ t494 t497 _ ?side1 ?side2 ?side3 A8.out).mono ?_); (case side1 => refine EnvW.below HE.out ?_; repeat (first | (with_reducible first | exact HB.out | apply below_alloc | apply pw_below_drewN | apply below_drew1) | exact HB.out)); (case side2 => repeat (first | exact (Kd.S_reads' HO496.out).2.2 | (with_reducible refine Kd.C_alloc ?_ _) | (with_reducible refine Kd.C_drewN ?_ _) | (with_reducible refine Kd.C_drew ?_))); (case side3 => exact (Kd.S_reads' HO496.out).2.1); rintro e w39 ⟨rfl, hb⟩; refine ⟨_, rfl, ?_⟩; replace HO492 := Aside0.mk (Kd.S_below (ks_ HO492) hb); replace HO496 := Aside0.mk (Kd.S_below (ks_ HO496) hb); replace HB := Aside0.mk (below_step (bw_ HB) hb); (try clear hb); (try clear hb2); (try clear hk); (try clear hi)))
 go_ret
 exact ⟨eR_, bw_ HB⟩
}}
end Go.Proofs.YtikjbfjnbhaljaaGreatDoor.P
end
