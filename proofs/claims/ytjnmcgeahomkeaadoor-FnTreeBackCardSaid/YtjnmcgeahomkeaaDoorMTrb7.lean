/- Texts of Trb, put together by program. -/
import Derived.Test.YtjnmcgeahomkeaaDoorMTrb2
import Derived.Test.YtjnmcgeahomkeaaDoorMTrb3
import Derived.Test.YtjnmcgeahomkeaaDoorMTrb6
import Derived.Test.YtjnmcgeahomkeaaDoorMTrb5

section
namespace Go.Proofs.YtjnmcgeahomkeaaDoor.P
open Go.RowKit Go.Proofs.YtjnmcgeahomkeaaDoorW.PrintWords Go.Proofs.YtjnmcgeahomkeaaDoorW.PrintLast Go.Proofs.YtjnmcgeahomkeaaDoorW.PrintMore Go.Proofs.YtjnmcgeahomkeaaDoorM
attribute [local go_sem] max2_int min2_int max_two min_two max_three min_three max_four min_four
set_option linter.unusedVariables false
set_option linter.unusedSimpArgs false
set_option maxHeartbeats 8000000
set_option maxRecDepth 100000
mutual
def spec_l10Put.j0 : Nat → List (S29) → Bool → ByteArray → Int → ByteArray → Bool → Option ((List (S29)) × Bool)
 | 0, _, _, _, _, _, _ => none
 | k + 1, x0, x36, x312000, x312001, x312002, x312003 => if x36 = true then ((spec_l10Copy.f x0).bind fun t317 => (some (t317, false))) else (spec_l10Put.l0 k x0 (([] : List (S29))) false 0 x312000 x312001 x312002 x312003)
def spec_l10Put.l0 : Nat → List (S29) → List (S29) → Bool → Int → ByteArray → Int → ByteArray → Bool → Option ((List (S29)) × Bool)
 | 0, _, _, _, _, _, _, _, _ => none
 | k + 1, x0, x7, x8, x9, x312000, x312001, x312002, x312003 => if x9 < (x0.length : Int) then (if x8 = true then (spec_l10Put.j2 k x0 x7 x8 x9 false x312000 x312001 x312002 x312003) else (if 0 ≤ x9 then (spec_l10Put.j2 k x0 x7 x8 x9 (!(Op.bytesLess (((rd_T29 x0 x9).f0).toList) x312000.toList)) x312000 x312001 x312002 x312003) else (none))) else (if x8 = true then (if (x7.length : Int) > 500 then ((spec_l10Copy.f x0).bind fun t337 => (some (t337, false))) else (some (x7, true))) else (if x7.length < 2932031007402 then ((some (x7 ++ [(⟨x312000, x312001, x312002, x312003⟩ : S29)] : List (S29))).bind fun y340 => (if (y340.length : Int) > 500 then ((spec_l10Copy.f x0).bind fun t343 => (some (t343, false))) else (some (y340, true)))) else (none)))
def spec_l10Put.j2 : Nat → List (S29) → List (S29) → Bool → Int → Bool → ByteArray → Int → ByteArray → Bool → Option ((List (S29)) × Bool)
 | 0, _, _, _, _, _, _, _, _, _ => none
 | k + 1, x0, x7, x8, x9, x57, x312000, x312001, x312002, x312003 => if x57 = true then (if x7.length < 2932031007402 then ((some (x7 ++ [(⟨x312000, x312001, x312002, x312003⟩ : S29)] : List (S29))).bind fun y324 => (if 0 ≤ x9 then (if x9 < (x0.length : Int) then (if ((rd_T29 x0 x9).f0).toList = x312000.toList then (spec_l10Put.l0 k x0 y324 true (wrap64 (x9 + 1)) x312000 x312001 x312002 x312003) else (if y324.length < 2932031007402 then (spec_l10Put.l0 k x0 (y324 ++ [(⟨(rd_T29 x0 x9).f0, (rd_T29 x0 x9).f1, (rd_T29 x0 x9).f2, (rd_T29 x0 x9).f3⟩ : S29)]) true (wrap64 (x9 + 1)) x312000 x312001 x312002 x312003) else (none))) else (none)) else (none))) else (none)) else (if 0 ≤ x9 then (if x9 < (x0.length : Int) then (if ((rd_T29 x0 x9).f0).toList = x312000.toList then (spec_l10Put.l0 k x0 x7 x8 (wrap64 (x9 + 1)) x312000 x312001 x312002 x312003) else (if x7.length < 2932031007402 then (spec_l10Put.l0 k x0 (x7 ++ [(⟨(rd_T29 x0 x9).f0, (rd_T29 x0 x9).f1, (rd_T29 x0 x9).f2, (rd_T29 x0 x9).f3⟩ : S29)]) x8 (wrap64 (x9 + 1)) x312000 x312001 x312002 x312003) else (none))) else (none)) else (none))
end
def spec_l10Put.f (k : Nat) (l0 : List (S29)) (a1_0 : ByteArray) (a1_1 : Int) (a1_2 : ByteArray) (a1_3 : Bool) : Option ((List (S29)) × Bool) := (spec_l10Up.f k a1_0).bind fun t312 => ((spec_l10EntryOk.f k a1_0 a1_1 a1_2 a1_3).bind fun t313 => (if t313 = true then (if t312.toList = ([] : List UInt8) then (if a1_1 = 1 then (spec_l10Put.j0 k l0 false a1_0 a1_1 a1_2 a1_3) else ((spec_l10Full.f k l0 a1_0).bind fun t314 => (spec_l10Put.j0 k l0 t314 a1_0 a1_1 a1_2 a1_3))) else ((spec_l10Dir.f k l0 t312).bind fun t315 => (if t315 = true then (if a1_1 = 1 then (spec_l10Put.j0 k l0 false a1_0 a1_1 a1_2 a1_3) else ((spec_l10Full.f k l0 a1_0).bind fun t316 => (spec_l10Put.j0 k l0 t316 a1_0 a1_1 a1_2 a1_3))) else (spec_l10Put.j0 k l0 true a1_0 a1_1 a1_2 a1_3)))) else (spec_l10Put.j0 k l0 true a1_0 a1_1 a1_2 a1_3)))
theorem spec_l10Put.calls (k : Nat) (A0 : Option Addr) (c0 : Nat) (l0 : List (S29)) (a1_0 : ByteArray) (a1_1 : Int) (a1_2 : ByteArray) (a1_3 : Bool) (r1 : List (S29)) (r2 : Bool) (w : World) (hr0 : Kd.C k29 w A0 l0.length l0) (hc0 : l0.length ≤ c0) (h : spec_l10Put.f k l0 a1_0 a1_1 a1_2 a1_3 = some (r1, r2)) :
 Calls Tryd.prog 41 #[.slice A0 l0.length c0, .agg #[.string a1_0, .int .i64 a1_1, .string a1_2, .bool a1_3]] w fun e w' => ∃ v0_ : Value, e = .returned (.tuple #[v0_, .bool r2]) ∧ Kd.R k29 29 w' w.heap.size (fun _ => True) v0_ r1 ∧ Below w.heap.size w w' := by
 have hu29 := Tryd.underlying29
 have HR0 := Aside0.mk hr0
 have HC0 := Aside0.mk hc0
 clear hr0 hc0
 have HB := Aside0.mk (Below.refl w.heap.size w)
 have H : ((spec_l10Up.f k a1_0).bind fun t312 => ((spec_l10EntryOk.f k a1_0 a1_1 a1_2 a1_3).bind fun t313 => (if t313 = true then (if t312.toList = ([] : List UInt8) then (if a1_1 = 1 then (spec_l10Put.j0 k l0 false a1_0 a1_1 a1_2 a1_3) else ((spec_l10Full.f k l0 a1_0).bind fun t314 => (spec_l10Put.j0 k l0 t314 a1_0 a1_1 a1_2 a1_3))) else ((spec_l10Dir.f k l0 t312).bind fun t315 => (if t315 = true then (if a1_1 = 1 then (spec_l10Put.j0 k l0 false a1_0 a1_1 a1_2 a1_3) else ((spec_l10Full.f k l0 a1_0).bind fun t316 => (spec_l10Put.j0 k l0 t316 a1_0 a1_1 a1_2 a1_3))) else (spec_l10Put.j0 k l0 true a1_0 a1_1 a1_2 a1_3)))) else (spec_l10Put.j0 k l0 true a1_0 a1_1 a1_2 a1_3)))) = some (r1, r2) := h
 clear h
 replace H := Option.bind_eq_some_iff.mp H
 obtain ⟨t312, A30, H⟩ := H
 have A3 := Aside0.mk A30
 clear A30
 have HC4 := Aside0.mk H
 clear H
 go_enter Tryd.func41, Tryd.ntmps41
 go_upto_region 2 with (first | ((with_reducible refine gate_dst (N := 3) rfl ?_); refine bE_ 3 #[.string a1_0, .int .i64 a1_1, .string a1_2, .bool a1_3] 29 ?_; intro gb311 hg w5 hbox hb; have BK311 := Aside0.mk (hbox); have GW311 := Aside0.mk ((ge_ hg (bw_ HB))); have GE311 := Aside0.mk ((ge_ hg (bw_ HB))); replace HB := Aside0.mk (below_step (bw_ HB) hb); clear hb hbox hg; obtain ⟨hcz6_0, hcz6_1, hcz6_2, hcz6_3, hfz6_0, hfz6_1, hfz6_2, hfz6_3⟩ := zc4_ BK311) | (go_at_call 28; (with_reducible refine (spec_l10Up.calls k a1_0 t312 _ A3.out).mono ?_); rintro e w' ⟨rfl, ⟨nd, rfl⟩⟩; (try exact dw_)))
 repeat (go_quiet (first | ((with_reducible refine gate_dst (N := 3) rfl ?_); refine bE_ 3 #[.string a1_0, .int .i64 a1_1, .string a1_2, .bool a1_3] 29 ?_; intro gb311 hg w5 hbox hb; have BK311 := Aside0.mk (hbox); have GW311 := Aside0.mk ((ge_ hg (bw_ HB))); have GE311 := Aside0.mk ((ge_ hg (bw_ HB))); replace HB := Aside0.mk (below_step (bw_ HB) hb); clear hb hbox hg; obtain ⟨hcz6_0, hcz6_1, hcz6_2, hcz6_3, hfz6_0, hfz6_1, hfz6_2, hfz6_3⟩ := zc4_ BK311) | (go_at_call 28; (with_reducible refine (spec_l10Up.calls k a1_0 t312 _ A3.out).mono ?_); rintro e w' ⟨rfl, ⟨nd, rfl⟩⟩; (try exact dw_))); go_upto_region 2 with (first | ((with_reducible refine gate_dst (N := 3) rfl ?_); refine bE_ 3 #[.string a1_0, .int .i64 a1_1, .string a1_2, .bool a1_3] 29 ?_; intro gb311 hg w5 hbox hb; have BK311 := Aside0.mk (hbox); have GW311 := Aside0.mk ((ge_ hg (bw_ HB))); have GE311 := Aside0.mk ((ge_ hg (bw_ HB))); replace HB := Aside0.mk (below_step (bw_ HB) hb); clear hb hbox hg; obtain ⟨hcz6_0, hcz6_1, hcz6_2, hcz6_3, hfz6_0, hfz6_1, hfz6_2, hfz6_3⟩ := zc4_ BK311) | (go_at_call 28; (with_reducible refine (spec_l10Up.calls k a1_0 t312 _ A3.out).mono ?_); rintro e w' ⟨rfl, ⟨nd, rfl⟩⟩; (try exact dw_))))
 (try simp only [Act.put, List.setIfInBounds_toArray, List.set_cons_zero, List.set_cons_succ])
 go_cut [36] (fun v36 wc => ∃ (kq : Nat) (x36_3 : Bool), v36 = .bool x36_3 ∧ Aside0 (spec_l10Put.j0 kq l0 x36_3 a1_0 a1_1 a1_2 a1_3 = some (r1, r2)) ∧ Aside0 (kq ≤ k) ∧ Aside0 (wc.heap[gb311]? = some (.cells #[.string a1_0, .int .i64 a1_1, .string a1_2, .bool a1_3] 29 (0, 0))) ∧ Aside0 (Below w.heap.size w wc))
 case first =>
  have H := HC4.out
  clear HC4
  replace H := Option.bind_eq_some_iff.mp H
  obtain ⟨t313, A70, H⟩ := H
  have A7 := Aside0.mk A70
  clear A70
  by_cases c8 : t313 = true
  {
  subst c8
  rw [if_pos rfl] at H
  by_cases c9 : t312.toList = ([] : List UInt8)
  {
  rw [if_pos c9] at H
  have c9b0 : (t312.toList == ([] : List UInt8)) = true := beq_iff_eq.mpr c9
  have c9b1 : (t312.toList != ([] : List UInt8)) = false := bne_eq_false_iff_eq.mpr c9
  clear c9
  (first | rw [c9b0] | (simp only [i64_w, i32_w]; rw [c9b0]) | skip)
  by_cases c10 : a1_1 = 1
  {
  rw [if_pos c10] at H
  have c10b0 : (a1_1 == 1) = true := beq_iff_eq.mpr c10
  have c10b1 : (a1_1 != 1) = false := bne_eq_false_iff_eq.mpr c10
  clear c10
  have H' := Aside0.mk H
  clear H
  obtain ⟨hcz11_0, hcz11_1, hcz11_2, hcz11_3, hfz11_0, hfz11_1, hfz11_2, hfz11_3⟩ := zc4_ BK311
  go_wp2_with (first | (go_at_call 27; (with_reducible refine (spec_l10EntryOk.calls k a1_0 a1_1 a1_2 a1_3 true _ A7.out).mono ?_); rintro e w12 ⟨rfl, hb⟩; replace BK311 := Aside0.mk (blk_below (bk_ BK311) hb); replace HB := Aside0.mk (below_step (bw1_ HB GE311) hb); clear hb; obtain ⟨hcz13_0, hcz13_1, hcz13_2, hcz13_3, hfz13_0, hfz13_1, hfz13_2, hfz13_3⟩ := zc4_ BK311))
  repeat (go_quiet (first | (go_at_call 27; (with_reducible refine (spec_l10EntryOk.calls k a1_0 a1_1 a1_2 a1_3 true _ A7.out).mono ?_); rintro e w12 ⟨rfl, hb⟩; replace BK311 := Aside0.mk (blk_below (bk_ BK311) hb); replace HB := Aside0.mk (below_step (bw1_ HB GE311) hb); clear hb; obtain ⟨hcz13_0, hcz13_1, hcz13_2, hcz13_3, hfz13_0, hfz13_1, hfz13_2, hfz13_3⟩ := zc4_ BK311)); try go_wp2_with (first | (go_at_call 27; (with_reducible refine (spec_l10EntryOk.calls k a1_0 a1_1 a1_2 a1_3 true _ A7.out).mono ?_); rintro e w12 ⟨rfl, hb⟩; replace BK311 := Aside0.mk (blk_below (bk_ BK311) hb); replace HB := Aside0.mk (below_step (bw1_ HB GE311) hb); clear hb; obtain ⟨hcz13_0, hcz13_1, hcz13_2, hcz13_3, hfz13_0, hfz13_1, hfz13_2, hfz13_3⟩ := zc4_ BK311)))
  go_meet
  case rel => exact ⟨_, (false), (by first | rfl | (simp; done) | (simp [*]; done)), H', ⟨by first | omega | exact Nat.le_refl _⟩, ⟨bk_ BK311⟩, ⟨bw1_ HB GE311⟩⟩}
  {
  rw [if_neg c10] at H
  have c10b0 : (a1_1 == 1) = false := beq_eq_false_iff_ne.mpr c10
  have c10b1 : (a1_1 != 1) = true := bne_iff_ne.mpr c10
  replace H := Option.bind_eq_some_iff.mp H
  obtain ⟨t314, A140, H⟩ := H
  have A14 := Aside0.mk A140
  clear A140
  have H' := Aside0.mk H
  clear H
  obtain ⟨hcz15_0, hcz15_1, hcz15_2, hcz15_3, hfz15_0, hfz15_1, hfz15_2, hfz15_3⟩ := zc4_ BK311
  go_wp2_with (first | (go_at_call 27; (with_reducible refine (spec_l10EntryOk.calls k a1_0 a1_1 a1_2 a1_3 true _ A7.out).mono ?_); rintro e w16 ⟨rfl, hb⟩; replace BK311 := Aside0.mk (blk_below (bk_ BK311) hb); replace HB := Aside0.mk (below_step (bw1_ HB GE311) hb); clear hb; obtain ⟨hcz17_0, hcz17_1, hcz17_2, hcz17_3, hfz17_0, hfz17_1, hfz17_2, hfz17_3⟩ := zc4_ BK311) | (go_at_call 59; (with_reducible refine (spec_l10Full.calls k _ _ l0 a1_0 t314 _ ?side1 ?side2 A14.out).mono ?_); (case side1 => exact cS_ HR0 HB); (case side2 => exact HC0.out); rintro e w' ⟨rfl, ⟨nd, rfl⟩⟩; (try exact dw_)))
  repeat (go_quiet (first | (go_at_call 27; (with_reducible refine (spec_l10EntryOk.calls k a1_0 a1_1 a1_2 a1_3 true _ A7.out).mono ?_); rintro e w16 ⟨rfl, hb⟩; replace BK311 := Aside0.mk (blk_below (bk_ BK311) hb); replace HB := Aside0.mk (below_step (bw1_ HB GE311) hb); clear hb; obtain ⟨hcz17_0, hcz17_1, hcz17_2, hcz17_3, hfz17_0, hfz17_1, hfz17_2, hfz17_3⟩ := zc4_ BK311) | (go_at_call 59; (with_reducible refine (spec_l10Full.calls k _ _ l0 a1_0 t314 _ ?side1 ?side2 A14.out).mono ?_); (case side1 => exact cS_ HR0 HB); (case side2 => exact HC0.out); rintro e w' ⟨rfl, ⟨nd, rfl⟩⟩; (try exact dw_))); try go_wp2_with (first | (go_at_call 27; (with_reducible refine (spec_l10EntryOk.calls k a1_0 a1_1 a1_2 a1_3 true _ A7.out).mono ?_); rintro e w16 ⟨rfl, hb⟩; replace BK311 := Aside0.mk (blk_below (bk_ BK311) hb); replace HB := Aside0.mk (below_step (bw1_ HB GE311) hb); clear hb; obtain ⟨hcz17_0, hcz17_1, hcz17_2, hcz17_3, hfz17_0, hfz17_1, hfz17_2, hfz17_3⟩ := zc4_ BK311) | (go_at_call 59; (with_reducible refine (spec_l10Full.calls k _ _ l0 a1_0 t314 _ ?side1 ?side2 A14.out).mono ?_); (case side1 => exact cS_ HR0 HB); (case side2 => exact HC0.out); rintro e w' ⟨rfl, ⟨nd, rfl⟩⟩; (try exact dw_))))
  go_meet
  case rel => exact ⟨_, (t314), (by first | rfl | (simp; done) | (simp [*]; done)), H', ⟨by first | omega | exact Nat.le_refl _⟩, ⟨bk_ BK311⟩, ⟨bw1_ HB GE311⟩⟩}}
  {
  rw [if_neg c9] at H
  have c9b0 : (t312.toList == ([] : List UInt8)) = false := beq_eq_false_iff_ne.mpr c9
  have c9b1 : (t312.toList != ([] : List UInt8)) = true := bne_iff_ne.mpr c9
  (first | rw [c9b0] | (simp only [i64_w, i32_w]; rw [c9b0]) | skip)
  replace H := Option.bind_eq_some_iff.mp H
  obtain ⟨t315, A180, H⟩ := H
  have A18 := Aside0.mk A180
  clear A180
  by_cases c19 : t315 = true
  {
  subst c19
  rw [if_pos rfl] at H
  by_cases c20 : a1_1 = 1
  {
  rw [if_pos c20] at H
  have c20b0 : (a1_1 == 1) = true := beq_iff_eq.mpr c20
  have c20b1 : (a1_1 != 1) = false := bne_eq_false_iff_eq.mpr c20
  clear c20
  have H' := Aside0.mk H
  clear H
  obtain ⟨hcz21_0, hcz21_1, hcz21_2, hcz21_3, hfz21_0, hfz21_1, hfz21_2, hfz21_3⟩ := zc4_ BK311
  go_wp2_with (first | (go_at_call 27; (with_reducible refine (spec_l10EntryOk.calls k a1_0 a1_1 a1_2 a1_3 true _ A7.out).mono ?_); rintro e w22 ⟨rfl, hb⟩; replace BK311 := Aside0.mk (blk_below (bk_ BK311) hb); replace HB := Aside0.mk (below_step (bw1_ HB GE311) hb); clear hb) | (go_at_call 29; (with_reducible refine (spec_l10Dir.calls k _ _ l0 t312 true _ ?side1 ?side2 A18.out).mono ?_); (case side1 => exact cS_ HR0 HB); (case side2 => exact HC0.out); rintro e w' ⟨rfl, ⟨nd, rfl⟩⟩; (try exact dw_); obtain ⟨hcz23_0, hcz23_1, hcz23_2, hcz23_3, hfz23_0, hfz23_1, hfz23_2, hfz23_3⟩ := zc4_ BK311))
  repeat (go_quiet (first | (go_at_call 27; (with_reducible refine (spec_l10EntryOk.calls k a1_0 a1_1 a1_2 a1_3 true _ A7.out).mono ?_); rintro e w22 ⟨rfl, hb⟩; replace BK311 := Aside0.mk (blk_below (bk_ BK311) hb); replace HB := Aside0.mk (below_step (bw1_ HB GE311) hb); clear hb; (try clear A7)) | (go_at_call 29; (with_reducible refine (spec_l10Dir.calls k _ _ l0 t312 true _ ?side1 ?side2 A18.out).mono ?_); (case side1 => exact cS_ HR0 HB); (case side2 => exact HC0.out); rintro e w' ⟨rfl, ⟨nd, rfl⟩⟩; (try exact dw_); obtain ⟨hcz23_0, hcz23_1, hcz23_2, hcz23_3, hfz23_0, hfz23_1, hfz23_2, hfz23_3⟩ := zc4_ BK311)); try go_wp2_with (first | (go_at_call 27; (with_reducible refine (spec_l10EntryOk.calls k a1_0 a1_1 a1_2 a1_3 true _ A7.out).mono ?_); rintro e w22 ⟨rfl, hb⟩; replace BK311 := Aside0.mk (blk_below (bk_ BK311) hb); replace HB := Aside0.mk (below_step (bw1_ HB GE311) hb); clear hb; (try clear A7)) | (go_at_call 29; (with_reducible refine (spec_l10Dir.calls k _ _ l0 t312 true _ ?side1 ?side2 A18.out).mono ?_); (case side1 => exact cS_ HR0 HB); (case side2 => exact HC0.out); rintro e w' ⟨rfl, ⟨nd, rfl⟩⟩; (try exact dw_); obtain ⟨hcz23_0, hcz23_1, hcz23_2, hcz23_3, hfz23_0, hfz23_1, hfz23_2, hfz23_3⟩ := zc4_ BK311)))
  go_meet
  case rel => exact ⟨_, (false), (by first | rfl | (simp; done) | (simp [*]; done)), H', ⟨by first | omega | exact Nat.le_refl _⟩, ⟨bk_ BK311⟩, ⟨bw1_ HB GE311⟩⟩}
  {
  rw [if_neg c20] at H
  have c20b0 : (a1_1 == 1) = false := beq_eq_false_iff_ne.mpr c20
  have c20b1 : (a1_1 != 1) = true := bne_iff_ne.mpr c20
  replace H := Option.bind_eq_some_iff.mp H
  obtain ⟨t316, A240, H⟩ := H
  have A24 := Aside0.mk A240
  clear A240
  have H' := Aside0.mk H
  clear H
  obtain ⟨hcz25_0, hcz25_1, hcz25_2, hcz25_3, hfz25_0, hfz25_1, hfz25_2, hfz25_3⟩ := zc4_ BK311
  go_wp2_with (first | (go_at_call 27; (with_reducible refine (spec_l10EntryOk.calls k a1_0 a1_1 a1_2 a1_3 true _ A7.out).mono ?_); rintro e w26 ⟨rfl, hb⟩; replace BK311 := Aside0.mk (blk_below (bk_ BK311) hb); replace HB := Aside0.mk (below_step (bw1_ HB GE311) hb); clear hb) | (go_at_call 29; (with_reducible refine (spec_l10Dir.calls k _ _ l0 t312 true _ ?side1 ?side2 A18.out).mono ?_); (case side1 => exact cS_ HR0 HB); (case side2 => exact HC0.out); rintro e w' ⟨rfl, ⟨nd, rfl⟩⟩; (try exact dw_); obtain ⟨hcz27_0, hcz27_1, hcz27_2, hcz27_3, hfz27_0, hfz27_1, hfz27_2, hfz27_3⟩ := zc4_ BK311) | (go_at_call 59; (with_reducible refine (spec_l10Full.calls k _ _ l0 a1_0 t316 _ ?side1 ?side2 A24.out).mono ?_); (case side1 => repeat (first | exact (Kd.C_below HR0.out (bw1_ HB GE311)) | (with_reducible refine Kd.C_alloc ?_ _) | (with_reducible refine Kd.C_drewN ?_ _) | (with_reducible refine Kd.C_drew ?_))); (case side2 => exact HC0.out); rintro e w' ⟨rfl, ⟨nd, rfl⟩⟩; (try exact dw_)))
  repeat (go_quiet (first | (go_at_call 27; (with_reducible refine (spec_l10EntryOk.calls k a1_0 a1_1 a1_2 a1_3 true _ A7.out).mono ?_); rintro e w26 ⟨rfl, hb⟩; replace BK311 := Aside0.mk (blk_below (bk_ BK311) hb); replace HB := Aside0.mk (below_step (bw1_ HB GE311) hb); clear hb; (try clear A7)) | (go_at_call 29; (with_reducible refine (spec_l10Dir.calls k _ _ l0 t312 true _ ?side1 ?side2 A18.out).mono ?_); (case side1 => exact cS_ HR0 HB); (case side2 => exact HC0.out); rintro e w' ⟨rfl, ⟨nd, rfl⟩⟩; (try exact dw_); obtain ⟨hcz27_0, hcz27_1, hcz27_2, hcz27_3, hfz27_0, hfz27_1, hfz27_2, hfz27_3⟩ := zc4_ BK311) | (go_at_call 59; (with_reducible refine (spec_l10Full.calls k _ _ l0 a1_0 t316 _ ?side1 ?side2 A24.out).mono ?_); (case side1 => repeat (first | exact (Kd.C_below HR0.out (bw1_ HB GE311)) | (with_reducible refine Kd.C_alloc ?_ _) | (with_reducible refine Kd.C_drewN ?_ _) | (with_reducible refine Kd.C_drew ?_))); (case side2 => exact HC0.out); rintro e w' ⟨rfl, ⟨nd, rfl⟩⟩; (try exact dw_))); try go_wp2_with (first | (go_at_call 27; (with_reducible refine (spec_l10EntryOk.calls k a1_0 a1_1 a1_2 a1_3 true _ A7.out).mono ?_); rintro e w26 ⟨rfl, hb⟩; replace BK311 := Aside0.mk (blk_below (bk_ BK311) hb); replace HB := Aside0.mk (below_step (bw1_ HB GE311) hb); clear hb; (try clear A7)) | (go_at_call 29; (with_reducible refine (spec_l10Dir.calls k _ _ l0 t312 true _ ?side1 ?side2 A18.out).mono ?_); (case side1 => exact cS_ HR0 HB); (case side2 => exact HC0.out); rintro e w' ⟨rfl, ⟨nd, rfl⟩⟩; (try exact dw_); obtain ⟨hcz27_0, hcz27_1, hcz27_2, hcz27_3, hfz27_0, hfz27_1, hfz27_2, hfz27_3⟩ := zc4_ BK311) | (go_at_call 59; (with_reducible refine (spec_l10Full.calls k _ _ l0 a1_0 t316 _ ?side1 ?side2 A24.out).mono ?_); (case side1 => repeat (first | exact (Kd.C_below HR0.out (bw1_ HB GE311)) | (with_reducible refine Kd.C_alloc ?_ _) | (with_reducible refine Kd.C_drewN ?_ _) | (with_reducible refine Kd.C_drew ?_))); (case side2 => exact HC0.out); rintro e w' ⟨rfl, ⟨nd, rfl⟩⟩; (try exact dw_))))
  go_meet
  case rel => exact ⟨_, (t316), (by first | rfl | (simp; done) | (simp [*]; done)), H', ⟨by first | omega | exact Nat.le_refl _⟩, ⟨bk_ BK311⟩, ⟨bw1_ HB GE311⟩⟩}}
  {
  replace c19 := Bool.eq_false_iff.mpr c19
  subst c19
  rw [if_neg (show ¬ (false = true) by decide)] at H
  have H' := Aside0.mk H
  clear H
  obtain ⟨hcz28_0, hcz28_1, hcz28_2, hcz28_3, hfz28_0, hfz28_1, hfz28_2, hfz28_3⟩ := zc4_ BK311
  go_wp2_with (first | (go_at_call 27; (with_reducible refine (spec_l10EntryOk.calls k a1_0 a1_1 a1_2 a1_3 true _ A7.out).mono ?_); rintro e w29 ⟨rfl, hb⟩; replace BK311 := Aside0.mk (blk_below (bk_ BK311) hb); replace HB := Aside0.mk (below_step (bw1_ HB GE311) hb); clear hb) | (go_at_call 29; (with_reducible refine (spec_l10Dir.calls k _ _ l0 t312 false _ ?side1 ?side2 A18.out).mono ?_); (case side1 => exact cS_ HR0 HB); (case side2 => exact HC0.out); rintro e w' ⟨rfl, ⟨nd, rfl⟩⟩; (try exact dw_)))
  repeat (go_quiet (first | (go_at_call 27; (with_reducible refine (spec_l10EntryOk.calls k a1_0 a1_1 a1_2 a1_3 true _ A7.out).mono ?_); rintro e w29 ⟨rfl, hb⟩; replace BK311 := Aside0.mk (blk_below (bk_ BK311) hb); replace HB := Aside0.mk (below_step (bw1_ HB GE311) hb); clear hb; (try clear A7)) | (go_at_call 29; (with_reducible refine (spec_l10Dir.calls k _ _ l0 t312 false _ ?side1 ?side2 A18.out).mono ?_); (case side1 => exact cS_ HR0 HB); (case side2 => exact HC0.out); rintro e w' ⟨rfl, ⟨nd, rfl⟩⟩; (try exact dw_))); try go_wp2_with (first | (go_at_call 27; (with_reducible refine (spec_l10EntryOk.calls k a1_0 a1_1 a1_2 a1_3 true _ A7.out).mono ?_); rintro e w29 ⟨rfl, hb⟩; replace BK311 := Aside0.mk (blk_below (bk_ BK311) hb); replace HB := Aside0.mk (below_step (bw1_ HB GE311) hb); clear hb; (try clear A7)) | (go_at_call 29; (with_reducible refine (spec_l10Dir.calls k _ _ l0 t312 false _ ?side1 ?side2 A18.out).mono ?_); (case side1 => exact cS_ HR0 HB); (case side2 => exact HC0.out); rintro e w' ⟨rfl, ⟨nd, rfl⟩⟩; (try exact dw_))))
  go_meet
  case rel => exact ⟨_, (true), (by first | rfl | (simp; done) | (simp [*]; done)), H', ⟨by first | omega | exact Nat.le_refl _⟩, ⟨bk_ BK311⟩, ⟨bw1_ HB GE311⟩⟩}}}
  {
  replace c8 := Bool.eq_false_iff.mpr c8
  subst c8
  rw [if_neg (show ¬ (false = true) by decide)] at H
  have H' := Aside0.mk H
  clear H
  obtain ⟨hcz30_0, hcz30_1, hcz30_2, hcz30_3, hfz30_0, hfz30_1, hfz30_2, hfz30_3⟩ := zc4_ BK311
  go_wp2_with (first | (go_at_call 27; (with_reducible refine (spec_l10EntryOk.calls k a1_0 a1_1 a1_2 a1_3 false _ A7.out).mono ?_); rintro e w31 ⟨rfl, hb⟩; replace BK311 := Aside0.mk (blk_below (bk_ BK311) hb); replace HB := Aside0.mk (below_step (bw1_ HB GE311) hb); clear hb))
  repeat (go_quiet (first | (go_at_call 27; (with_reducible refine (spec_l10EntryOk.calls k a1_0 a1_1 a1_2 a1_3 false _ A7.out).mono ?_); rintro e w31 ⟨rfl, hb⟩; replace BK311 := Aside0.mk (blk_below (bk_ BK311) hb); replace HB := Aside0.mk (below_step (bw1_ HB GE311) hb); clear hb; (try clear A7))); try go_wp2_with (first | (go_at_call 27; (with_reducible refine (spec_l10EntryOk.calls k a1_0 a1_1 a1_2 a1_3 false _ A7.out).mono ?_); rintro e w31 ⟨rfl, hb⟩; replace BK311 := Aside0.mk (blk_below (bk_ BK311) hb); replace HB := Aside0.mk (below_step (bw1_ HB GE311) hb); clear hb; (try clear A7))))
  go_meet
  case rel => exact ⟨_, (true), (by first | rfl | (simp; done) | (simp [*]; done)), H', ⟨by first | omega | exact Nat.le_refl _⟩, ⟨bk_ BK311⟩, ⟨bw1_ HB GE311⟩⟩}
 case rest =>
  clear HC4
  try clear c1
  try clear c2
  try clear p2
  try clear c4
  try clear c8
  try clear c9
  try clear c9b0
  try clear c9b1
  try clear c10
  try clear c10b0
  try clear c10b1
  try clear c19
  try clear c20
  try clear c20b0
  try clear c20b1
  try clear hcz11_0 hcz11_1 hcz11_2 hcz11_3
  try clear hcz13_0 hcz13_1 hcz13_2 hcz13_3
  try clear hcz15_0 hcz15_1 hcz15_2 hcz15_3
  try clear hcz17_0 hcz17_1 hcz17_2 hcz17_3
  try clear hcz21_0 hcz21_1 hcz21_2 hcz21_3
  try clear hcz23_0 hcz23_1 hcz23_2 hcz23_3
  try clear hcz25_0 hcz25_1 hcz25_2 hcz25_3
  try clear hcz27_0 hcz27_1 hcz27_2 hcz27_3
  try clear hcz28_0 hcz28_1 hcz28_2 hcz28_3
  try clear hcz30_0 hcz30_1 hcz30_2 hcz30_3
  try clear hcz6_0 hcz6_1 hcz6_2 hcz6_3
  try clear hfz11_0 hfz11_1 hfz11_2 hfz11_3
  try clear hfz13_0 hfz13_1 hfz13_2 hfz13_3
  try clear hfz15_0 hfz15_1 hfz15_2 hfz15_3
  try clear hfz17_0 hfz17_1 hfz17_2 hfz17_3
  try clear hfz21_0 hfz21_1 hfz21_2 hfz21_3
  try clear hfz23_0 hfz23_1 hfz23_2 hfz23_3
  try clear hfz25_0 hfz25_1 hfz25_2 hfz25_3
  try clear hfz27_0 hfz27_1 hfz27_2 hfz27_3
  try clear hfz28_0 hfz28_1 hfz28_2 hfz28_3
  try clear hfz30_0 hfz30_1 hfz30_2 hfz30_3
  try clear hfz6_0 hfz6_1 hfz6_2 hfz6_3
  obtain ⟨kq, x36_3, rfl, HA, HJ3, BK311, HB⟩ := hcut
  cases kq with
  | zero => exact absurd HA.out (by simp [spec_l10Put.j0])
  | succ kj3 =>
   have H := HA.out
   clear HA
   simp only [spec_l10Put.j0] at H
   by_cases c32 : x36_3 = true
   {
   subst c32
   rw [if_pos rfl] at H
   replace H := Option.bind_eq_some_iff.mp H
   obtain ⟨t317, A330, H⟩ := H
   have A33 := Aside0.mk A330
   clear A330
   simp only [Option.some.injEq, Prod.mk.injEq] at H
   obtain ⟨rfl, rfl⟩ := H
   go_wp2_with (first | (go_at_call 60; (with_reducible refine (spec_l10Copy.calls _ _ l0 t317 _ ?side1 ?side2 A33.out).mono ?_); (case side1 => exact cS_ HR0 HB); (case side2 => exact HC0.out); rintro e w34 ⟨v318, rfl, ho0, hb⟩; have HO319 := Aside0.mk (Kd.R_lower (Kd.R_newB ho0 (g := gb311) (o := .cells #[.string a1_0, .int .i64 a1_1, .string a1_2, .bool a1_3] 29 (0, 0)) (bk_ BK311)) (below_size (bw1_ HB GE311))); replace BK311 := Aside0.mk (blk_below (bk_ BK311) hb); replace HB := Aside0.mk (below_step (bw1_ HB GE311) hb); clear hb; (try clear ho0)))
   repeat (go_quiet (first | (go_at_call 60; (with_reducible refine (spec_l10Copy.calls _ _ l0 t317 _ ?side1 ?side2 A33.out).mono ?_); (case side1 => exact cS_ HR0 HB); (case side2 => exact HC0.out); rintro e w34 ⟨v318, rfl, ho0, hb⟩; have HO319 := Aside0.mk (Kd.R_lower (Kd.R_newB ho0 (g := gb311) (o := .cells #[.string a1_0, .int .i64 a1_1, .string a1_2, .bool a1_3] 29 (0, 0)) (bk_ BK311)) (below_size (bw1_ HB GE311))); replace BK311 := Aside0.mk (blk_below (bk_ BK311) hb); replace HB := Aside0.mk (below_step (bw1_ HB GE311) hb); clear hb; (try clear ho0))); try go_wp2_with (first | (go_at_call 60; (with_reducible refine (spec_l10Copy.calls _ _ l0 t317 _ ?side1 ?side2 A33.out).mono ?_); (case side1 => exact cS_ HR0 HB); (case side2 => exact HC0.out); rintro e w34 ⟨v318, rfl, ho0, hb⟩; have HO319 := Aside0.mk (Kd.R_lower (Kd.R_newB ho0 (g := gb311) (o := .cells #[.string a1_0, .int .i64 a1_1, .string a1_2, .bool a1_3] 29 (0, 0)) (bk_ BK311)) (below_size (bw1_ HB GE311))); replace BK311 := Aside0.mk (blk_below (bk_ BK311) hb); replace HB := Aside0.mk (below_step (bw1_ HB GE311) hb); clear hb; (try clear ho0))))
   go_ret2
   exact ⟨_, eR_, by (with_reducible repeat (first | apply Kd.R_alloc | apply Kd.R_drewN | apply Kd.R_drew)); exact Kd.R_mono HO319.out (fun _ hk => trivial), bw1_ HB GE311⟩}
   {
   replace c32 := Bool.eq_false_iff.mpr c32
   subst c32
   rw [if_neg (show ¬ (false = true) by decide)] at H
   obtain ⟨y320, hy320⟩ : ∃ y_ : List (S29), y_ = (([] : List (S29))) := ⟨_, rfl⟩
   replace H : (spec_l10Put.l0 kj3 l0 y320 false 0 a1_0 a1_1 a1_2 a1_3) = some (r1, r2) := rH_ hy320 H
   have Ny320 := Aside0.mk hy320
   clear hy320
   have H' := Aside0.mk H
   clear H
   go_wp2_with (first | ((with_reducible refine gate_dst (N := 39) rfl ?_); refine Kd.R_lit k29 _ 29 ?hg (N := 39) ?hd (xs := ([] : List (S29))) (inner := []) (ok := fun _ => True) (okp := fun _ => True) ?hr ?hp (fun _ hk => hk) trivial (Below.refl _ _) (Nat.le_refl _) (by simp) ?_; (case hd => rfl); (case hg => rfl); (case hr => first | (go_simp; done) | (go_simp; rfl)); (case hp => exact (Reps.none _ _)); intro v321 w35 ho36 hb hg_ hnew_; clear hg_ hnew_; (first | rw [← Ny320.out] at ho36 | (simp only [Int.reduceToNat] at ho36; rw [← Ny320.out] at ho36)); have HO322 := Aside0.mk (Kd.R_lower (Kd.R_newB ho36 (g := gb311) (o := .cells #[.string a1_0, .int .i64 a1_1, .string a1_2, .bool a1_3] 29 (0, 0)) (bk_ BK311)) (below_size (bw1_ HB GE311))); replace BK311 := Aside0.mk (blk_below (bk_ BK311) hb); replace HB := Aside0.mk (below_step (bw1_ HB GE311) hb); clear hb ho36))
   repeat (go_quiet (first | ((with_reducible refine gate_dst (N := 39) rfl ?_); refine Kd.R_lit k29 _ 29 ?hg (N := 39) ?hd (xs := ([] : List (S29))) (inner := []) (ok := fun _ => True) (okp := fun _ => True) ?hr ?hp (fun _ hk => hk) trivial (Below.refl _ _) (Nat.le_refl _) (by simp) ?_; (case hd => rfl); (case hg => rfl); (case hr => first | (go_simp; done) | (go_simp; rfl)); (case hp => exact (Reps.none _ _)); intro v321 w35 ho36 hb hg_ hnew_; clear hg_ hnew_; (first | rw [← Ny320.out] at ho36 | (simp only [Int.reduceToNat] at ho36; rw [← Ny320.out] at ho36)); have HO322 := Aside0.mk (Kd.R_lower (Kd.R_newB ho36 (g := gb311) (o := .cells #[.string a1_0, .int .i64 a1_1, .string a1_2, .bool a1_3] 29 (0, 0)) (bk_ BK311)) (below_size (bw1_ HB GE311))); replace BK311 := Aside0.mk (blk_below (bk_ BK311) hb); replace HB := Aside0.mk (below_step (bw1_ HB GE311) hb); clear hb ho36)); try go_wp2_with (first | ((with_reducible refine gate_dst (N := 39) rfl ?_); refine Kd.R_lit k29 _ 29 ?hg (N := 39) ?hd (xs := ([] : List (S29))) (inner := []) (ok := fun _ => True) (okp := fun _ => True) ?hr ?hp (fun _ hk => hk) trivial (Below.refl _ _) (Nat.le_refl _) (by simp) ?_; (case hd => rfl); (case hg => rfl); (case hr => first | (go_simp; done) | (go_simp; rfl)); (case hp => exact (Reps.none _ _)); intro v321 w35 ho36 hb hg_ hnew_; clear hg_ hnew_; (first | rw [← Ny320.out] at ho36 | (simp only [Int.reduceToNat] at ho36; rw [← Ny320.out] at ho36)); have HO322 := Aside0.mk (Kd.R_lower (Kd.R_newB ho36 (g := gb311) (o := .cells #[.string a1_0, .int .i64 a1_1, .string a1_2, .bool a1_3] 29 (0, 0)) (bk_ BK311)) (below_size (bw1_ HB GE311))); replace BK311 := Aside0.mk (blk_below (bk_ BK311) hb); replace HB := Aside0.mk (below_step (bw1_ HB GE311) hb); clear hb ho36)))
   go_loopg [7, 8, 9] kj3 (fun kq v7 v8 v9 w' => ∃ (x7_2 : List (S29)) (x8_2 : Bool) (x9_2 : Int), v8 = .bool x8_2 ∧ v9 = .int .i64 x9_2 ∧ Aside0 (spec_l10Put.l0 kq l0 x7_2 x8_2 x9_2 a1_0 a1_1 a1_2 a1_3 = some (r1, r2)) ∧ Aside0 (kq ≤ kj3) ∧ Aside0 (Kd.R k29 29 w' w.heap.size (fun k_ => k_ ≠ gb311) v7 x7_2) ∧ Aside0 (w'.heap[gb311]? = some (.cells #[.string a1_0, .int .i64 a1_1, .string a1_2, .bool a1_3] 29 (0, 0))) ∧ Aside0 (Below w.heap.size w w'))
   case atStart => exact ⟨(y320), (false), (0), (by first | rfl | (simp; done) | (simp [*]; done)), (by first | rfl | (simp; done) | (simp [*]; done)), H', ⟨Nat.le_refl _⟩, ⟨by (with_reducible repeat (first | apply Kd.R_alloc | apply Kd.R_drewN | apply Kd.R_drew)); exact Kd.R_mono HO322.out (fun _ hk => hk.2)⟩, ⟨bk_ BK311⟩, ⟨bw1_ HB GE311⟩⟩
   case round =>
    clear H'
    try clear c1
    try clear c2
    try clear p2
    try clear c3
    try clear c4
    try clear c8
    try clear c9
    try clear c9b0
    try clear c9b1
    try clear c10
    try clear c10b0
    try clear c10b1
    try clear c19
    try clear c20
    try clear c20b0
    try clear c20b1
    try clear c32
    try clear hcz11_0 hcz11_1 hcz11_2 hcz11_3
    try clear hcz13_0 hcz13_1 hcz13_2 hcz13_3
    try clear hcz15_0 hcz15_1 hcz15_2 hcz15_3
    try clear hcz17_0 hcz17_1 hcz17_2 hcz17_3
    try clear hcz21_0 hcz21_1 hcz21_2 hcz21_3
    try clear hcz23_0 hcz23_1 hcz23_2 hcz23_3
    try clear hcz25_0 hcz25_1 hcz25_2 hcz25_3
    try clear hcz27_0 hcz27_1 hcz27_2 hcz27_3
    try clear hcz28_0 hcz28_1 hcz28_2 hcz28_3
    try clear hcz30_0 hcz30_1 hcz30_2 hcz30_3
    try clear hcz6_0 hcz6_1 hcz6_2 hcz6_3
    try clear hfz11_0 hfz11_1 hfz11_2 hfz11_3
    try clear hfz13_0 hfz13_1 hfz13_2 hfz13_3
    try clear hfz15_0 hfz15_1 hfz15_2 hfz15_3
    try clear hfz17_0 hfz17_1 hfz17_2 hfz17_3
    try clear hfz21_0 hfz21_1 hfz21_2 hfz21_3
    try clear hfz23_0 hfz23_1 hfz23_2 hfz23_3
    try clear hfz25_0 hfz25_1 hfz25_2 hfz25_3
    try clear hfz27_0 hfz27_1 hfz27_2 hfz27_3
    try clear hfz28_0 hfz28_1 hfz28_2 hfz28_3
    try clear hfz30_0 hfz30_1 hfz30_2 hfz30_3
    try clear hfz6_0 hfz6_1 hfz6_2 hfz6_3
    try clear p2
    obtain ⟨x7_2, x8_2, x9_2, rfl, rfl, HA, HK2, HO_7, BK311, HB⟩ := hrel
    cases gk with
    | zero => exact absurd HA.out (by simp [spec_l10Put.l0])
    | succ k2 =>
     have H := HA.out
     clear HA
     simp only [spec_l10Put.l0] at H
     by_cases c37 : x9_2 < (l0.length : Int)
     {
     rw [if_pos c37] at H
     have c37b0 := decide_eq_true c37
     clear c37
     have HC38 := Aside0.mk H
     clear H
     go_upto_region 9 with (fail)
     repeat (go_quiet (fail); go_upto_region 9 with (fail))
     go_cut [57] (fun v57 wc => ∃ (kq : Nat) (x57_37 : Bool), v57 = .bool x57_37 ∧ Aside0 (spec_l10Put.j2 kq l0 x7_2 x8_2 x9_2 x57_37 a1_0 a1_1 a1_2 a1_3 = some (r1, r2)) ∧ Aside0 (kq ≤ k2) ∧ Aside0 (Kd.R k29 29 wc w.heap.size (fun k_ => k_ ≠ gb311) u7 x7_2) ∧ Aside0 (wc.heap[gb311]? = some (.cells #[.string a1_0, .int .i64 a1_1, .string a1_2, .bool a1_3] 29 (0, 0))) ∧ Aside0 (Below w.heap.size w wc))
     case first =>
      have H := HC38.out
      clear HC38
      by_cases c39 : x8_2 = true
      {
      subst c39
      rw [if_pos rfl] at H
      have H' := Aside0.mk H
      clear H
      go_wp2
      repeat (go_quiet (fail); try go_wp2)
      go_meet
      case rel => exact ⟨_, (false), (by first | rfl | (simp; done) | (simp [*]; done)), H', ⟨by have := HJ3.out; have := HK2.out; first | omega | exact Nat.le_refl _⟩, ⟨kr_ HO_7⟩, ⟨bk_ BK311⟩, ⟨bw1_ HB GE311⟩⟩}
      {
      replace c39 := Bool.eq_false_iff.mpr c39
      subst c39
      rw [if_neg (show ¬ (false = true) by decide)] at H
      by_cases c40 : 0 ≤ x9_2
      {
      rw [if_pos c40] at H
      have c40b0 := decide_eq_true c40
      clear c40
      (first | rw [c40b0] | (simp only [i64_w, i32_w]; rw [c40b0]) | skip)
      have H' := Aside0.mk H
      clear H
      have p323 : 0 ≤ (x9_2 : Int) := dA_
      have q323 : x9_2 < (l0.length : Int) := dA_
      obtain ⟨ad323, e323, hx323_0, hx323_1, hx323_2, hx323_3⟩ := at_T29 HR0.out x9_2 p323 q323
      cases e323
      replace hx323_0 := hX_ HB hx323_0
      replace hx323_1 := hX_ HB hx323_1
      replace hx323_2 := hX_ HB hx323_2
      replace hx323_3 := hX_ HB hx323_3
      replace p323 := eq_true p323
      replace q323 := eq_true q323
      obtain ⟨hcz41_0, hcz41_1, hcz41_2, hcz41_3, hfz41_0, hfz41_1, hfz41_2, hfz41_3⟩ := zc4_ BK311
      go_wp2
      repeat (go_quiet (fail); try go_wp2)
      go_meet
      case rel => exact ⟨_, (!(Op.bytesLess (((rd_T29 l0 x9_2).f0).toList) a1_0.toList)), (by first | rfl | (simp; done) | (simp [*]; done)), H', ⟨by have := HJ3.out; have := HK2.out; first | omega | exact Nat.le_refl _⟩, ⟨kr_ HO_7⟩, ⟨bk_ BK311⟩, ⟨bw1_ HB GE311⟩⟩}
      {
      rw [if_neg c40] at H
      exact absurd H (by simp)}}
     case rest =>
      clear HC38
      try clear c1
      try clear c2
      try clear p2
      try clear c3
      try clear p3
      try clear q3
      try clear hx3
      try clear c4
      try clear c8
      try clear c9
      try clear c9b0
      try clear c9b1
      try clear c10
      try clear c10b0
      try clear c10b1
      try clear c19
      try clear c20
      try clear c20b0
      try clear c20b1
      try clear c32
      try clear p32
      try clear q32
      try clear hx32
      try clear c37
      try clear c37b0
      try clear c39
      try clear c40
      try clear c40b0
      try clear c41
      try clear hcz11_0 hcz11_1 hcz11_2 hcz11_3
      try clear hcz13_0 hcz13_1 hcz13_2 hcz13_3
      try clear hcz15_0 hcz15_1 hcz15_2 hcz15_3
      try clear hcz17_0 hcz17_1 hcz17_2 hcz17_3
      try clear hcz21_0 hcz21_1 hcz21_2 hcz21_3
      try clear hcz23_0 hcz23_1 hcz23_2 hcz23_3
      try clear hcz25_0 hcz25_1 hcz25_2 hcz25_3
      try clear hcz27_0 hcz27_1 hcz27_2 hcz27_3
      try clear hcz28_0 hcz28_1 hcz28_2 hcz28_3
      try clear hcz30_0 hcz30_1 hcz30_2 hcz30_3
      try clear hcz41_0 hcz41_1 hcz41_2 hcz41_3
      try clear hcz6_0 hcz6_1 hcz6_2 hcz6_3
      try clear hfz11_0 hfz11_1 hfz11_2 hfz11_3
      try clear hfz13_0 hfz13_1 hfz13_2 hfz13_3
      try clear hfz15_0 hfz15_1 hfz15_2 hfz15_3
      try clear hfz17_0 hfz17_1 hfz17_2 hfz17_3
      try clear hfz21_0 hfz21_1 hfz21_2 hfz21_3
      try clear hfz23_0 hfz23_1 hfz23_2 hfz23_3
      try clear hfz25_0 hfz25_1 hfz25_2 hfz25_3
      try clear hfz27_0 hfz27_1 hfz27_2 hfz27_3
      try clear hfz28_0 hfz28_1 hfz28_2 hfz28_3
      try clear hfz30_0 hfz30_1 hfz30_2 hfz30_3
      try clear hfz41_0 hfz41_1 hfz41_2 hfz41_3
      try clear hfz6_0 hfz6_1 hfz6_2 hfz6_3
      try clear hx323_0
      try clear hx323_1
      try clear hx323_2
      try clear hx323_3
      try clear p2
      try clear p323
      try clear q323
      obtain ⟨kq, x57_37, rfl, HA, HJ37, HO_7, BK311, HB⟩ := hcut
      cases kq with
      | zero => exact absurd HA.out (by simp [spec_l10Put.j2])
      | succ kj37 =>
       have H := HA.out
       clear HA
       simp only [spec_l10Put.j2] at H
       by_cases c42 : x57_37 = true
       {
       subst c42
       rw [if_pos rfl] at H
       by_cases c43 : x7_2.length < 2932031007402
       {
       rw [if_pos c43] at H
       have LMc43 := Aside0.mk c43
       clear c43
       obtain ⟨y324, hy324⟩ : ∃ y_ : List (S29), y_ = (x7_2 ++ [(⟨a1_0, a1_1, a1_2, a1_3⟩ : S29)]) := ⟨_, rfl⟩
       replace H : (if 0 ≤ x9_2 then (if x9_2 < (l0.length : Int) then (if ((rd_T29 l0 x9_2).f0).toList = a1_0.toList then (spec_l10Put.l0 kj37 l0 y324 true (wrap64 (x9_2 + 1)) a1_0 a1_1 a1_2 a1_3) else (if y324.length < 2932031007402 then (spec_l10Put.l0 kj37 l0 (y324 ++ [(⟨(rd_T29 l0 x9_2).f0, (rd_T29 l0 x9_2).f1, (rd_T29 l0 x9_2).f2, (rd_T29 l0 x9_2).f3⟩ : S29)]) true (wrap64 (x9_2 + 1)) a1_0 a1_1 a1_2 a1_3) else (none))) else (none)) else (none)) = some (r1, r2) := rH_ hy324 H
       have Ny324 := Aside0.mk hy324
       clear hy324
       by_cases c44 : 0 ≤ x9_2
       {
       rw [if_pos c44] at H
       have c44b0 := decide_eq_true c44
       clear c44
       by_cases c45 : x9_2 < (l0.length : Int)
       {
       rw [if_pos c45] at H
       have c45b0 := decide_eq_true c45
       clear c45
       by_cases c46 : ((rd_T29 l0 x9_2).f0).toList = a1_0.toList
       {
       rw [if_pos c46] at H
       have c46b0 : (((rd_T29 l0 x9_2).f0).toList == a1_0.toList) = true := beq_iff_eq.mpr c46
       have c46b1 : (((rd_T29 l0 x9_2).f0).toList != a1_0.toList) = false := bne_eq_false_iff_eq.mpr c46
       clear c46
       have H' := Aside0.mk H
       clear H
       obtain ⟨hcz47_0, hcz47_1, hcz47_2, hcz47_3, hfz47_0, hfz47_1, hfz47_2, hfz47_3⟩ := zc4_ BK311
       go_wp2_with (first | ((with_reducible refine gate_builtin (b := .append) (xs := #[.tmp 58, .tmp 60]) rfl ?_); at_builtin; refine Kd.R_append k29 (w0 := w) w.heap.size rfl (.tmp 58) (.tmp 60) 24 29 (.agg #[(.string ⟨#[]⟩), (.int .i64 0), (.string ⟨#[]⟩), (.bool false)]) 48 rfl Tryd.underlying24 info29 rfl (by decide) (by omega) u7 x7_2 (⟨a1_0, a1_1, a1_2, a1_3⟩ : S29) [.string a1_0, .int .i64 a1_1, .string a1_2, .bool a1_3] (fun k_ => k_ ≠ gb311) (fun _ => False) rfl rfl ?aP (fun _ hk => hk.elim) ?aF ?aO ?aB ?aS ?aL ?_; (case aP => exact k29_mkM _ _ _ (⟨a1_0, a1_1, a1_2, a1_3⟩ : S29)); (case aB => exact (bw1_ HB GE311)); (case aF => exact (fun k_ hk => Kd.freshB (g := gb311) (o := .cells #[.string a1_0, .int .i64 a1_1, .string a1_2, .bool a1_3] 29 (0, 0)) (bk_ BK311) k_ hk)); (case aO => exact (kr_ HO_7)); (case aS => exact (below_size (bw1_ HB GE311))); (case aL => have := LMc43.out; omega); intro v325 w48 ho hb hg hat; rw [← Ny324.out] at ho; replace BK311 := Aside0.mk (blk_grown (g := gb311) (o := .cells #[.string a1_0, .int .i64 a1_1, .string a1_2, .bool a1_3] 29 (0, 0)) (bk_ BK311) hg (Kd.R_away HO_7.out (fun _ hk => hk))); replace HB := Aside0.mk (hb); have HO326 := Aside0.mk (ho); clear HO_7; clear ho hb hg hat; have p327 : 0 ≤ (x9_2 : Int) := dA_; have q327 : x9_2 < (l0.length : Int) := dA_; obtain ⟨ad327, e327, hx327_0, hx327_1, hx327_2, hx327_3⟩ := at_T29 HR0.out x9_2 p327 q327; cases e327; replace hx327_0 := hX_ HB hx327_0; replace hx327_1 := hX_ HB hx327_1; replace hx327_2 := hX_ HB hx327_2; replace hx327_3 := hX_ HB hx327_3; replace p327 := eq_true p327; replace q327 := eq_true q327; obtain ⟨hcz49_0, hcz49_1, hcz49_2, hcz49_3, hfz49_0, hfz49_1, hfz49_2, hfz49_3⟩ := zc4_ BK311))
       repeat (go_quiet (first | ((with_reducible refine gate_builtin (b := .append) (xs := #[.tmp 58, .tmp 60]) rfl ?_); at_builtin; refine Kd.R_append k29 (w0 := w) w.heap.size rfl (.tmp 58) (.tmp 60) 24 29 (.agg #[(.string ⟨#[]⟩), (.int .i64 0), (.string ⟨#[]⟩), (.bool false)]) 48 rfl Tryd.underlying24 info29 rfl (by decide) (by omega) u7 x7_2 (⟨a1_0, a1_1, a1_2, a1_3⟩ : S29) [.string a1_0, .int .i64 a1_1, .string a1_2, .bool a1_3] (fun k_ => k_ ≠ gb311) (fun _ => False) rfl rfl ?aP (fun _ hk => hk.elim) ?aF ?aO ?aB ?aS ?aL ?_; (case aP => exact k29_mkM _ _ _ (⟨a1_0, a1_1, a1_2, a1_3⟩ : S29)); (case aB => exact (bw1_ HB GE311)); (case aF => exact (fun k_ hk => Kd.freshB (g := gb311) (o := .cells #[.string a1_0, .int .i64 a1_1, .string a1_2, .bool a1_3] 29 (0, 0)) (bk_ BK311) k_ hk)); (case aO => exact (kr_ HO_7)); (case aS => exact (below_size (bw1_ HB GE311))); (case aL => have := LMc43.out; omega); intro v325 w48 ho hb hg hat; rw [← Ny324.out] at ho; replace BK311 := Aside0.mk (blk_grown (g := gb311) (o := .cells #[.string a1_0, .int .i64 a1_1, .string a1_2, .bool a1_3] 29 (0, 0)) (bk_ BK311) hg (Kd.R_away HO_7.out (fun _ hk => hk))); replace HB := Aside0.mk (hb); have HO326 := Aside0.mk (ho); clear HO_7; clear ho hb hg hat; have p327 : 0 ≤ (x9_2 : Int) := dA_; have q327 : x9_2 < (l0.length : Int) := dA_; obtain ⟨ad327, e327, hx327_0, hx327_1, hx327_2, hx327_3⟩ := at_T29 HR0.out x9_2 p327 q327; cases e327; replace hx327_0 := hX_ HB hx327_0; replace hx327_1 := hX_ HB hx327_1; replace hx327_2 := hX_ HB hx327_2; replace hx327_3 := hX_ HB hx327_3; replace p327 := eq_true p327; replace q327 := eq_true q327; obtain ⟨hcz49_0, hcz49_1, hcz49_2, hcz49_3, hfz49_0, hfz49_1, hfz49_2, hfz49_3⟩ := zc4_ BK311)); try go_wp2_with (first | ((with_reducible refine gate_builtin (b := .append) (xs := #[.tmp 58, .tmp 60]) rfl ?_); at_builtin; refine Kd.R_append k29 (w0 := w) w.heap.size rfl (.tmp 58) (.tmp 60) 24 29 (.agg #[(.string ⟨#[]⟩), (.int .i64 0), (.string ⟨#[]⟩), (.bool false)]) 48 rfl Tryd.underlying24 info29 rfl (by decide) (by omega) u7 x7_2 (⟨a1_0, a1_1, a1_2, a1_3⟩ : S29) [.string a1_0, .int .i64 a1_1, .string a1_2, .bool a1_3] (fun k_ => k_ ≠ gb311) (fun _ => False) rfl rfl ?aP (fun _ hk => hk.elim) ?aF ?aO ?aB ?aS ?aL ?_; (case aP => exact k29_mkM _ _ _ (⟨a1_0, a1_1, a1_2, a1_3⟩ : S29)); (case aB => exact (bw1_ HB GE311)); (case aF => exact (fun k_ hk => Kd.freshB (g := gb311) (o := .cells #[.string a1_0, .int .i64 a1_1, .string a1_2, .bool a1_3] 29 (0, 0)) (bk_ BK311) k_ hk)); (case aO => exact (kr_ HO_7)); (case aS => exact (below_size (bw1_ HB GE311))); (case aL => have := LMc43.out; omega); intro v325 w48 ho hb hg hat; rw [← Ny324.out] at ho; replace BK311 := Aside0.mk (blk_grown (g := gb311) (o := .cells #[.string a1_0, .int .i64 a1_1, .string a1_2, .bool a1_3] 29 (0, 0)) (bk_ BK311) hg (Kd.R_away HO_7.out (fun _ hk => hk))); replace HB := Aside0.mk (hb); have HO326 := Aside0.mk (ho); clear HO_7; clear ho hb hg hat; have p327 : 0 ≤ (x9_2 : Int) := dA_; have q327 : x9_2 < (l0.length : Int) := dA_; obtain ⟨ad327, e327, hx327_0, hx327_1, hx327_2, hx327_3⟩ := at_T29 HR0.out x9_2 p327 q327; cases e327; replace hx327_0 := hX_ HB hx327_0; replace hx327_1 := hX_ HB hx327_1; replace hx327_2 := hX_ HB hx327_2; replace hx327_3 := hX_ HB hx327_3; replace p327 := eq_true p327; replace q327 := eq_true q327; obtain ⟨hcz49_0, hcz49_1, hcz49_2, hcz49_3, hfz49_0, hfz49_1, hfz49_2, hfz49_3⟩ := zc4_ BK311)))
       go_roundg kj37
       case measure => have := HJ3.out; have := HK2.out; have := HJ37.out; omega
       case rel => exact ⟨(y324), (true), (wrap64 (x9_2 + 1)), (by first | rfl | (simp; done) | (simp [*]; done)), (by first | rfl | (simp; done) | (simp [*]; done)), H', ⟨by have := HJ3.out; have := HK2.out; have := HJ37.out; omega⟩, ⟨kr_ HO326⟩, ⟨bk_ BK311⟩, ⟨bw1_ HB GE311⟩⟩}
       {
       rw [if_neg c46] at H
       have c46b0 : (((rd_T29 l0 x9_2).f0).toList == a1_0.toList) = false := beq_eq_false_iff_ne.mpr c46
       have c46b1 : (((rd_T29 l0 x9_2).f0).toList != a1_0.toList) = true := bne_iff_ne.mpr c46
       by_cases c50 : y324.length < 2932031007402
       {
       rw [if_pos c50] at H
       have LMc50 := Aside0.mk c50
       clear c50
       obtain ⟨y329, hy329⟩ : ∃ y_ : List (S29), y_ = (y324 ++ [(⟨(rd_T29 l0 x9_2).f0, (rd_T29 l0 x9_2).f1, (rd_T29 l0 x9_2).f2, (rd_T29 l0 x9_2).f3⟩ : S29)]) := ⟨_, rfl⟩
       replace H : (spec_l10Put.l0 kj37 l0 y329 true (wrap64 (x9_2 + 1)) a1_0 a1_1 a1_2 a1_3) = some (r1, r2) := rH_ hy329 H
       have Ny329 := Aside0.mk hy329
       clear hy329
       have H' := Aside0.mk H
       clear H
       obtain ⟨hcz51_0, hcz51_1, hcz51_2, hcz51_3, hfz51_0, hfz51_1, hfz51_2, hfz51_3⟩ := zc4_ BK311
       go_wp2_with (first | ((with_reducible refine gate_builtin (b := .append) (xs := #[.tmp 58, .tmp 60]) rfl ?_); at_builtin; refine Kd.R_append k29 (w0 := w) w.heap.size rfl (.tmp 58) (.tmp 60) 24 29 (.agg #[(.string ⟨#[]⟩), (.int .i64 0), (.string ⟨#[]⟩), (.bool false)]) 48 rfl Tryd.underlying24 info29 rfl (by decide) (by omega) u7 x7_2 (⟨a1_0, a1_1, a1_2, a1_3⟩ : S29) [.string a1_0, .int .i64 a1_1, .string a1_2, .bool a1_3] (fun k_ => k_ ≠ gb311) (fun _ => False) rfl rfl ?aP (fun _ hk => hk.elim) ?aF ?aO ?aB ?aS ?aL ?_; (case aP => exact k29_mkM _ _ _ (⟨a1_0, a1_1, a1_2, a1_3⟩ : S29)); (case aB => exact (bw1_ HB GE311)); (case aF => exact (fun k_ hk => Kd.freshB (g := gb311) (o := .cells #[.string a1_0, .int .i64 a1_1, .string a1_2, .bool a1_3] 29 (0, 0)) (bk_ BK311) k_ hk)); (case aO => exact (kr_ HO_7)); (case aS => exact (below_size (bw1_ HB GE311))); (case aL => have := LMc43.out; omega); intro v325 w52 ho hb hg hat; rw [← Ny324.out] at ho; replace BK311 := Aside0.mk (blk_grown (g := gb311) (o := .cells #[.string a1_0, .int .i64 a1_1, .string a1_2, .bool a1_3] 29 (0, 0)) (bk_ BK311) hg (Kd.R_away HO_7.out (fun _ hk => hk))); replace HB := Aside0.mk (hb); have HO326 := Aside0.mk (ho); clear HO_7; clear ho hb hg hat; have p327 : 0 ≤ (x9_2 : Int) := dA_; have q327 : x9_2 < (l0.length : Int) := dA_; obtain ⟨ad327, e327, hx327_0, hx327_1, hx327_2, hx327_3⟩ := at_T29 HR0.out x9_2 p327 q327; cases e327; replace hx327_0 := hX_ HB hx327_0; replace hx327_1 := hX_ HB hx327_1; replace hx327_2 := hX_ HB hx327_2; replace hx327_3 := hX_ HB hx327_3; replace p327 := eq_true p327; replace q327 := eq_true q327; obtain ⟨hcz53_0, hcz53_1, hcz53_2, hcz53_3, hfz53_0, hfz53_1, hfz53_2, hfz53_3⟩ := zc4_ BK311; have p328 : 0 ≤ (x9_2 : Int) := dA_; have q328 : x9_2 < (l0.length : Int) := dA_; obtain ⟨ad328, e328, hx328_0, hx328_1, hx328_2, hx328_3⟩ := at_T29 HR0.out x9_2 p328 q328; obtain rfl : ad327 = ad328 := (by injection e328); replace hx328_0 := hX_ HB hx328_0; replace hx328_1 := hX_ HB hx328_1; replace hx328_2 := hX_ HB hx328_2; replace hx328_3 := hX_ HB hx328_3; replace p328 := eq_true p328; replace q328 := eq_true q328) | ((with_reducible refine gate_builtin (b := .append) (xs := #[.tmp 70, .tmp 75]) rfl ?_); at_builtin; refine Kd.R_append k29 (w0 := w) w.heap.size rfl (.tmp 70) (.tmp 75) 24 29 (.agg #[(.string ⟨#[]⟩), (.int .i64 0), (.string ⟨#[]⟩), (.bool false)]) 48 rfl Tryd.underlying24 info29 rfl (by decide) (by omega) v325 y324 (⟨(rd_T29 l0 x9_2).f0, (rd_T29 l0 x9_2).f1, (rd_T29 l0 x9_2).f2, (rd_T29 l0 x9_2).f3⟩ : S29) [.string ((rd_T29 l0 x9_2).f0), .int .i64 ((rd_T29 l0 x9_2).f1), .string ((rd_T29 l0 x9_2).f2), .bool ((rd_T29 l0 x9_2).f3)] (fun k_ => k_ ≠ gb311) (fun _ => False) rfl rfl ?aP (fun _ hk => hk.elim) ?aF ?aO ?aB ?aS ?aL ?_; (case aP => exact k29_mkM _ _ _ (⟨(rd_T29 l0 x9_2).f0, (rd_T29 l0 x9_2).f1, (rd_T29 l0 x9_2).f2, (rd_T29 l0 x9_2).f3⟩ : S29)); (case aB => exact (bw1_ HB GE311)); (case aF => exact (fun k_ hk => Kd.freshB (g := gb311) (o := .cells #[.string a1_0, .int .i64 a1_1, .string a1_2, .bool a1_3] 29 (0, 0)) (bk_ BK311) k_ hk)); (case aO => exact (kr_ HO326)); (case aS => exact (below_size (bw1_ HB GE311))); (case aL => have := LMc50.out; omega); intro v330 w54 ho hb hg hat; rw [← Ny329.out] at ho; replace BK311 := Aside0.mk (blk_grown (g := gb311) (o := .cells #[.string a1_0, .int .i64 a1_1, .string a1_2, .bool a1_3] 29 (0, 0)) (bk_ BK311) hg (Kd.R_away HO326.out (fun _ hk => hk))); replace HB := Aside0.mk (hb); have HO331 := Aside0.mk (ho); clear HO326; clear ho hb hg hat))
       repeat (go_quiet (first | ((with_reducible refine gate_builtin (b := .append) (xs := #[.tmp 58, .tmp 60]) rfl ?_); at_builtin; refine Kd.R_append k29 (w0 := w) w.heap.size rfl (.tmp 58) (.tmp 60) 24 29 (.agg #[(.string ⟨#[]⟩), (.int .i64 0), (.string ⟨#[]⟩), (.bool false)]) 48 rfl Tryd.underlying24 info29 rfl (by decide) (by omega) u7 x7_2 (⟨a1_0, a1_1, a1_2, a1_3⟩ : S29) [.string a1_0, .int .i64 a1_1, .string a1_2, .bool a1_3] (fun k_ => k_ ≠ gb311) (fun _ => False) rfl rfl ?aP (fun _ hk => hk.elim) ?aF ?aO ?aB ?aS ?aL ?_; (case aP => exact k29_mkM _ _ _ (⟨a1_0, a1_1, a1_2, a1_3⟩ : S29)); (case aB => exact (bw1_ HB GE311)); (case aF => exact (fun k_ hk => Kd.freshB (g := gb311) (o := .cells #[.string a1_0, .int .i64 a1_1, .string a1_2, .bool a1_3] 29 (0, 0)) (bk_ BK311) k_ hk)); (case aO => exact (kr_ HO_7)); (case aS => exact (below_size (bw1_ HB GE311))); (case aL => have := LMc43.out; omega); intro v325 w52 ho hb hg hat; rw [← Ny324.out] at ho; replace BK311 := Aside0.mk (blk_grown (g := gb311) (o := .cells #[.string a1_0, .int .i64 a1_1, .string a1_2, .bool a1_3] 29 (0, 0)) (bk_ BK311) hg (Kd.R_away HO_7.out (fun _ hk => hk))); replace HB := Aside0.mk (hb); have HO326 := Aside0.mk (ho); clear HO_7; clear ho hb hg hat; have p327 : 0 ≤ (x9_2 : Int) := dA_; have q327 : x9_2 < (l0.length : Int) := dA_; obtain ⟨ad327, e327, hx327_0, hx327_1, hx327_2, hx327_3⟩ := at_T29 HR0.out x9_2 p327 q327; cases e327; replace hx327_0 := hX_ HB hx327_0; replace hx327_1 := hX_ HB hx327_1; replace hx327_2 := hX_ HB hx327_2; replace hx327_3 := hX_ HB hx327_3; replace p327 := eq_true p327; replace q327 := eq_true q327; obtain ⟨hcz53_0, hcz53_1, hcz53_2, hcz53_3, hfz53_0, hfz53_1, hfz53_2, hfz53_3⟩ := zc4_ BK311; have p328 : 0 ≤ (x9_2 : Int) := dA_; have q328 : x9_2 < (l0.length : Int) := dA_; obtain ⟨ad328, e328, hx328_0, hx328_1, hx328_2, hx328_3⟩ := at_T29 HR0.out x9_2 p328 q328; obtain rfl : ad327 = ad328 := (by injection e328); replace hx328_0 := hX_ HB hx328_0; replace hx328_1 := hX_ HB hx328_1; replace hx328_2 := hX_ HB hx328_2; replace hx328_3 := hX_ HB hx328_3; replace p328 := eq_true p328; replace q328 := eq_true q328) | ((with_reducible refine gate_builtin (b := .append) (xs := #[.tmp 70, .tmp 75]) rfl ?_); at_builtin; refine Kd.R_append k29 (w0 := w) w.heap.size rfl (.tmp 70) (.tmp 75) 24 29 (.agg #[(.string ⟨#[]⟩), (.int .i64 0), (.string ⟨#[]⟩), (.bool false)]) 48 rfl Tryd.underlying24 info29 rfl (by decide) (by omega) v325 y324 (⟨(rd_T29 l0 x9_2).f0, (rd_T29 l0 x9_2).f1, (rd_T29 l0 x9_2).f2, (rd_T29 l0 x9_2).f3⟩ : S29) [.string ((rd_T29 l0 x9_2).f0), .int .i64 ((rd_T29 l0 x9_2).f1), .string ((rd_T29 l0 x9_2).f2), .bool ((rd_T29 l0 x9_2).f3)] (fun k_ => k_ ≠ gb311) (fun _ => False) rfl rfl ?aP (fun _ hk => hk.elim) ?aF ?aO ?aB ?aS ?aL ?_; (case aP => exact k29_mkM _ _ _ (⟨(rd_T29 l0 x9_2).f0, (rd_T29 l0 x9_2).f1, (rd_T29 l0 x9_2).f2, (rd_T29 l0 x9_2).f3⟩ : S29)); (case aB => exact (bw1_ HB GE311)); (case aF => exact (fun k_ hk => Kd.freshB (g := gb311) (o := .cells #[.string a1_0, .int .i64 a1_1, .string a1_2, .bool a1_3] 29 (0, 0)) (bk_ BK311) k_ hk)); (case aO => exact (kr_ HO326)); (case aS => exact (below_size (bw1_ HB GE311))); (case aL => have := LMc50.out; omega); intro v330 w54 ho hb hg hat; rw [← Ny329.out] at ho; replace BK311 := Aside0.mk (blk_grown (g := gb311) (o := .cells #[.string a1_0, .int .i64 a1_1, .string a1_2, .bool a1_3] 29 (0, 0)) (bk_ BK311) hg (Kd.R_away HO326.out (fun _ hk => hk))); replace HB := Aside0.mk (hb); have HO331 := Aside0.mk (ho); clear HO326; clear ho hb hg hat)); try go_wp2_with (first | ((with_reducible refine gate_builtin (b := .append) (xs := #[.tmp 58, .tmp 60]) rfl ?_); at_builtin; refine Kd.R_append k29 (w0 := w) w.heap.size rfl (.tmp 58) (.tmp 60) 24 29 (.agg #[(.string ⟨#[]⟩), (.int .i64 0), (.string ⟨#[]⟩), (.bool false)]) 48 rfl Tryd.underlying24 info29 rfl (by decide) (by omega) u7 x7_2 (⟨a1_0, a1_1, a1_2, a1_3⟩ : S29) [.string a1_0, .int .i64 a1_1, .string a1_2, .bool a1_3] (fun k_ => k_ ≠ gb311) (fun _ => False) rfl rfl ?aP (fun _ hk => hk.elim) ?aF ?aO ?aB ?aS ?aL ?_; (case aP => exact k29_mkM _ _ _ (⟨a1_0, a1_1, a1_2, a1_3⟩ : S29)); (case aB => exact (bw1_ HB GE311)); (case aF => exact (fun k_ hk => Kd.freshB (g := gb311) (o := .cells #[.string a1_0, .int .i64 a1_1, .string a1_2, .bool a1_3] 29 (0, 0)) (bk_ BK311) k_ hk)); (case aO => exact (kr_ HO_7)); (case aS => exact (below_size (bw1_ HB GE311))); (case aL => have := LMc43.out; omega); intro v325 w52 ho hb hg hat; rw [← Ny324.out] at ho; replace BK311 := Aside0.mk (blk_grown (g := gb311) (o := .cells #[.string a1_0, .int .i64 a1_1, .string a1_2, .bool a1_3] 29 (0, 0)) (bk_ BK311) hg (Kd.R_away HO_7.out (fun _ hk => hk))); replace HB := Aside0.mk (hb); have HO326 := Aside0.mk (ho); clear HO_7; clear ho hb hg hat; have p327 : 0 ≤ (x9_2 : Int) := dA_; have q327 : x9_2 < (l0.length : Int) := dA_; obtain ⟨ad327, e327, hx327_0, hx327_1, hx327_2, hx327_3⟩ := at_T29 HR0.out x9_2 p327 q327; cases e327; replace hx327_0 := hX_ HB hx327_0; replace hx327_1 := hX_ HB hx327_1; replace hx327_2 := hX_ HB hx327_2; replace hx327_3 := hX_ HB hx327_3; replace p327 := eq_true p327; replace q327 := eq_true q327; obtain ⟨hcz53_0, hcz53_1, hcz53_2, hcz53_3, hfz53_0, hfz53_1, hfz53_2, hfz53_3⟩ := zc4_ BK311; have p328 : 0 ≤ (x9_2 : Int) := dA_; have q328 : x9_2 < (l0.length : Int) := dA_; obtain ⟨ad328, e328, hx328_0, hx328_1, hx328_2, hx328_3⟩ := at_T29 HR0.out x9_2 p328 q328; obtain rfl : ad327 = ad328 := (by injection e328); replace hx328_0 := hX_ HB hx328_0; replace hx328_1 := hX_ HB hx328_1; replace hx328_2 := hX_ HB hx328_2; replace hx328_3 := hX_ HB hx328_3; replace p328 := eq_true p328; replace q328 := eq_true q328) | ((with_reducible refine gate_builtin (b := .append) (xs := #[.tmp 70, .tmp 75]) rfl ?_); at_builtin; refine Kd.R_append k29 (w0 := w) w.heap.size rfl (.tmp 70) (.tmp 75) 24 29 (.agg #[(.string ⟨#[]⟩), (.int .i64 0), (.string ⟨#[]⟩), (.bool false)]) 48 rfl Tryd.underlying24 info29 rfl (by decide) (by omega) v325 y324 (⟨(rd_T29 l0 x9_2).f0, (rd_T29 l0 x9_2).f1, (rd_T29 l0 x9_2).f2, (rd_T29 l0 x9_2).f3⟩ : S29) [.string ((rd_T29 l0 x9_2).f0), .int .i64 ((rd_T29 l0 x9_2).f1), .string ((rd_T29 l0 x9_2).f2), .bool ((rd_T29 l0 x9_2).f3)] (fun k_ => k_ ≠ gb311) (fun _ => False) rfl rfl ?aP (fun _ hk => hk.elim) ?aF ?aO ?aB ?aS ?aL ?_; (case aP => exact k29_mkM _ _ _ (⟨(rd_T29 l0 x9_2).f0, (rd_T29 l0 x9_2).f1, (rd_T29 l0 x9_2).f2, (rd_T29 l0 x9_2).f3⟩ : S29)); (case aB => exact (bw1_ HB GE311)); (case aF => exact (fun k_ hk => Kd.freshB (g := gb311) (o := .cells #[.string a1_0, .int .i64 a1_1, .string a1_2, .bool a1_3] 29 (0, 0)) (bk_ BK311) k_ hk)); (case aO => exact (kr_ HO326)); (case aS => exact (below_size (bw1_ HB GE311))); (case aL => have := LMc50.out; omega); intro v330 w54 ho hb hg hat; rw [← Ny329.out] at ho; replace BK311 := Aside0.mk (blk_grown (g := gb311) (o := .cells #[.string a1_0, .int .i64 a1_1, .string a1_2, .bool a1_3] 29 (0, 0)) (bk_ BK311) hg (Kd.R_away HO326.out (fun _ hk => hk))); replace HB := Aside0.mk (hb); have HO331 := Aside0.mk (ho); clear HO326; clear ho hb hg hat)))
       go_roundg kj37
       case measure => have := HJ3.out; have := HK2.out; have := HJ37.out; omega
       case rel => exact ⟨(y329), (true), (wrap64 (x9_2 + 1)), (by first | rfl | (simp; done) | (simp [*]; done)), (by first | rfl | (simp; done) | (simp [*]; done)), H', ⟨by have := HJ3.out; have := HK2.out; have := HJ37.out; omega⟩, ⟨kr_ HO331⟩, ⟨bk_ BK311⟩, ⟨bw1_ HB GE311⟩⟩}
       {
       rw [if_neg c50] at H
       exact absurd H (by simp)}}}
       {
       rw [if_neg c45] at H
       exact absurd H (by simp)}}
       {
       rw [if_neg c44] at H
       exact absurd H (by simp)}}
       {
       rw [if_neg c43] at H
       exact absurd H (by simp)}}
       {
       replace c42 := Bool.eq_false_iff.mpr c42
       subst c42
       rw [if_neg (show ¬ (false = true) by decide)] at H
       by_cases c55 : 0 ≤ x9_2
       {
       rw [if_pos c55] at H
       have c55b0 := decide_eq_true c55
       clear c55
       by_cases c56 : x9_2 < (l0.length : Int)
       {
       rw [if_pos c56] at H
       have c56b0 := decide_eq_true c56
       clear c56
       by_cases c57 : ((rd_T29 l0 x9_2).f0).toList = a1_0.toList
       {
       rw [if_pos c57] at H
       have c57b0 : (((rd_T29 l0 x9_2).f0).toList == a1_0.toList) = true := beq_iff_eq.mpr c57
       have c57b1 : (((rd_T29 l0 x9_2).f0).toList != a1_0.toList) = false := bne_eq_false_iff_eq.mpr c57
       clear c57
       have H' := Aside0.mk H
       clear H
       have p332 : 0 ≤ (x9_2 : Int) := dA_
       have q332 : x9_2 < (l0.length : Int) := dA_
       obtain ⟨ad332, e332, hx332_0, hx332_1, hx332_2, hx332_3⟩ := at_T29 HR0.out x9_2 p332 q332
       cases e332
       replace hx332_0 := hX_ HB hx332_0
       replace hx332_1 := hX_ HB hx332_1
       replace hx332_2 := hX_ HB hx332_2
       replace hx332_3 := hX_ HB hx332_3
       replace p332 := eq_true p332
       replace q332 := eq_true q332
       obtain ⟨hcz58_0, hcz58_1, hcz58_2, hcz58_3, hfz58_0, hfz58_1, hfz58_2, hfz58_3⟩ := zc4_ BK311
       go_wp2
       repeat (go_quiet (fail); try go_wp2)
       go_roundg kj37
       case measure => have := HJ3.out; have := HK2.out; have := HJ37.out; omega
       case rel => exact ⟨(x7_2), (x8_2), (wrap64 (x9_2 + 1)), (by first | rfl | (simp; done) | (simp [*]; done)), (by first | rfl | (simp; done) | (simp [*]; done)), H', ⟨by have := HJ3.out; have := HK2.out; have := HJ37.out; omega⟩, ⟨kr_ HO_7⟩, ⟨bk_ BK311⟩, ⟨bw1_ HB GE311⟩⟩}
       {
       rw [if_neg c57] at H
       have c57b0 : (((rd_T29 l0 x9_2).f0).toList == a1_0.toList) = false := beq_eq_false_iff_ne.mpr c57
       have c57b1 : (((rd_T29 l0 x9_2).f0).toList != a1_0.toList) = true := bne_iff_ne.mpr c57
       by_cases c59 : x7_2.length < 2932031007402
       {
       rw [if_pos c59] at H
       have LMc59 := Aside0.mk c59
       clear c59
       obtain ⟨y334, hy334⟩ : ∃ y_ : List (S29), y_ = (x7_2 ++ [(⟨(rd_T29 l0 x9_2).f0, (rd_T29 l0 x9_2).f1, (rd_T29 l0 x9_2).f2, (rd_T29 l0 x9_2).f3⟩ : S29)]) := ⟨_, rfl⟩
       replace H : (spec_l10Put.l0 kj37 l0 y334 x8_2 (wrap64 (x9_2 + 1)) a1_0 a1_1 a1_2 a1_3) = some (r1, r2) := rH_ hy334 H
       have Ny334 := Aside0.mk hy334
       clear hy334
       have H' := Aside0.mk H
       clear H
       have p332 : 0 ≤ (x9_2 : Int) := dA_
       have q332 : x9_2 < (l0.length : Int) := dA_
       obtain ⟨ad332, e332, hx332_0, hx332_1, hx332_2, hx332_3⟩ := at_T29 HR0.out x9_2 p332 q332
       cases e332
       replace hx332_0 := hX_ HB hx332_0
       replace hx332_1 := hX_ HB hx332_1
       replace hx332_2 := hX_ HB hx332_2
       replace hx332_3 := hX_ HB hx332_3
       replace p332 := eq_true p332
       replace q332 := eq_true q332
       obtain ⟨hcz60_0, hcz60_1, hcz60_2, hcz60_3, hfz60_0, hfz60_1, hfz60_2, hfz60_3⟩ := zc4_ BK311
       have p333 : 0 ≤ (x9_2 : Int) := dA_
       have q333 : x9_2 < (l0.length : Int) := dA_
       obtain ⟨ad333, e333, hx333_0, hx333_1, hx333_2, hx333_3⟩ := at_T29 HR0.out x9_2 p333 q333
       obtain rfl : ad332 = ad333 := (by injection e333)
       replace hx333_0 := hX_ HB hx333_0
       replace hx333_1 := hX_ HB hx333_1
       replace hx333_2 := hX_ HB hx333_2
       replace hx333_3 := hX_ HB hx333_3
       replace p333 := eq_true p333
       replace q333 := eq_true q333
       go_wp2_with (first | ((with_reducible refine gate_builtin (b := .append) (xs := #[.tmp 70, .tmp 75]) rfl ?_); at_builtin; refine Kd.R_append k29 (w0 := w) w.heap.size rfl (.tmp 70) (.tmp 75) 24 29 (.agg #[(.string ⟨#[]⟩), (.int .i64 0), (.string ⟨#[]⟩), (.bool false)]) 48 rfl Tryd.underlying24 info29 rfl (by decide) (by omega) u7 x7_2 (⟨(rd_T29 l0 x9_2).f0, (rd_T29 l0 x9_2).f1, (rd_T29 l0 x9_2).f2, (rd_T29 l0 x9_2).f3⟩ : S29) [.string ((rd_T29 l0 x9_2).f0), .int .i64 ((rd_T29 l0 x9_2).f1), .string ((rd_T29 l0 x9_2).f2), .bool ((rd_T29 l0 x9_2).f3)] (fun k_ => k_ ≠ gb311) (fun _ => False) rfl rfl ?aP (fun _ hk => hk.elim) ?aF ?aO ?aB ?aS ?aL ?_; (case aP => exact k29_mkM _ _ _ (⟨(rd_T29 l0 x9_2).f0, (rd_T29 l0 x9_2).f1, (rd_T29 l0 x9_2).f2, (rd_T29 l0 x9_2).f3⟩ : S29)); (case aB => exact (bw1_ HB GE311)); (case aF => exact (fun k_ hk => Kd.freshB (g := gb311) (o := .cells #[.string a1_0, .int .i64 a1_1, .string a1_2, .bool a1_3] 29 (0, 0)) (bk_ BK311) k_ hk)); (case aO => exact (kr_ HO_7)); (case aS => exact (below_size (bw1_ HB GE311))); (case aL => have := LMc59.out; omega); intro v335 w61 ho hb hg hat; rw [← Ny334.out] at ho; replace BK311 := Aside0.mk (blk_grown (g := gb311) (o := .cells #[.string a1_0, .int .i64 a1_1, .string a1_2, .bool a1_3] 29 (0, 0)) (bk_ BK311) hg (Kd.R_away HO_7.out (fun _ hk => hk))); replace HB := Aside0.mk (hb); have HO336 := Aside0.mk (ho); clear HO_7; clear ho hb hg hat))
       repeat (go_quiet (first | ((with_reducible refine gate_builtin (b := .append) (xs := #[.tmp 70, .tmp 75]) rfl ?_); at_builtin; refine Kd.R_append k29 (w0 := w) w.heap.size rfl (.tmp 70) (.tmp 75) 24 29 (.agg #[(.string ⟨#[]⟩), (.int .i64 0), (.string ⟨#[]⟩), (.bool false)]) 48 rfl Tryd.underlying24 info29 rfl (by decide) (by omega) u7 x7_2 (⟨(rd_T29 l0 x9_2).f0, (rd_T29 l0 x9_2).f1, (rd_T29 l0 x9_2).f2, (rd_T29 l0 x9_2).f3⟩ : S29) [.string ((rd_T29 l0 x9_2).f0), .int .i64 ((rd_T29 l0 x9_2).f1), .string ((rd_T29 l0 x9_2).f2), .bool ((rd_T29 l0 x9_2).f3)] (fun k_ => k_ ≠ gb311) (fun _ => False) rfl rfl ?aP (fun _ hk => hk.elim) ?aF ?aO ?aB ?aS ?aL ?_; (case aP => exact k29_mkM _ _ _ (⟨(rd_T29 l0 x9_2).f0, (rd_T29 l0 x9_2).f1, (rd_T29 l0 x9_2).f2, (rd_T29 l0 x9_2).f3⟩ : S29)); (case aB => exact (bw1_ HB GE311)); (case aF => exact (fun k_ hk => Kd.freshB (g := gb311) (o := .cells #[.string a1_0, .int .i64 a1_1, .string a1_2, .bool a1_3] 29 (0, 0)) (bk_ BK311) k_ hk)); (case aO => exact (kr_ HO_7)); (case aS => exact (below_size (bw1_ HB GE311))); (case aL => have := LMc59.out; omega); intro v335 w61 ho hb hg hat; rw [← Ny334.out] at ho; replace BK311 := Aside0.mk (blk_grown (g := gb311) (o := .cells #[.string a1_0, .int .i64 a1_1, .string a1_2, .bool a1_3] 29 (0, 0)) (bk_ BK311) hg (Kd.R_away HO_7.out (fun _ hk => hk))); replace HB := Aside0.mk (hb); have HO336 := Aside0.mk (ho); clear HO_7; clear ho hb hg hat)); try go_wp2_with (first | ((with_reducible refine gate_builtin (b := .append) (xs := #[.tmp 70, .tmp 75]) rfl ?_); at_builtin; refine Kd.R_append k29 (w0 := w) w.heap.size rfl (.tmp 70) (.tmp 75) 24 29 (.agg #[(.string ⟨#[]⟩), (.int .i64 0), (.string ⟨#[]⟩), (.bool false)]) 48 rfl Tryd.underlying24 info29 rfl (by decide) (by omega) u7 x7_2 (⟨(rd_T29 l0 x9_2).f0, (rd_T29 l0 x9_2).f1, (rd_T29 l0 x9_2).f2, (rd_T29 l0 x9_2).f3⟩ : S29) [.string ((rd_T29 l0 x9_2).f0), .int .i64 ((rd_T29 l0 x9_2).f1), .string ((rd_T29 l0 x9_2).f2), .bool ((rd_T29 l0 x9_2).f3)] (fun k_ => k_ ≠ gb311) (fun _ => False) rfl rfl ?aP (fun _ hk => hk.elim) ?aF ?aO ?aB ?aS ?aL ?_; (case aP => exact k29_mkM _ _ _ (⟨(rd_T29 l0 x9_2).f0, (rd_T29 l0 x9_2).f1, (rd_T29 l0 x9_2).f2, (rd_T29 l0 x9_2).f3⟩ : S29)); (case aB => exact (bw1_ HB GE311)); (case aF => exact (fun k_ hk => Kd.freshB (g := gb311) (o := .cells #[.string a1_0, .int .i64 a1_1, .string a1_2, .bool a1_3] 29 (0, 0)) (bk_ BK311) k_ hk)); (case aO => exact (kr_ HO_7)); (case aS => exact (below_size (bw1_ HB GE311))); (case aL => have := LMc59.out; omega); intro v335 w61 ho hb hg hat; rw [← Ny334.out] at ho; replace BK311 := Aside0.mk (blk_grown (g := gb311) (o := .cells #[.string a1_0, .int .i64 a1_1, .string a1_2, .bool a1_3] 29 (0, 0)) (bk_ BK311) hg (Kd.R_away HO_7.out (fun _ hk => hk))); replace HB := Aside0.mk (hb); have HO336 := Aside0.mk (ho); clear HO_7; clear ho hb hg hat)))
       go_roundg kj37
       case measure => have := HJ3.out; have := HK2.out; have := HJ37.out; omega
       case rel => exact ⟨(y334), (x8_2), (wrap64 (x9_2 + 1)), (by first | rfl | (simp; done) | (simp [*]; done)), (by first | rfl | (simp; done) | (simp [*]; done)), H', ⟨by have := HJ3.out; have := HK2.out; have := HJ37.out; omega⟩, ⟨kr_ HO336⟩, ⟨bk_ BK311⟩, ⟨bw1_ HB GE311⟩⟩}
       {
       rw [if_neg c59] at H
       exact absurd H (by simp)}}}
       {
       rw [if_neg c56] at H
       exact absurd H (by simp)}}
       {
       rw [if_neg c55] at H
       exact absurd H (by simp)}}}
     {
     rw [if_neg c37] at H
     have c37b0 := decide_eq_false c37
     clear c37
     by_cases c62 : x8_2 = true
     {
     subst c62
     rw [if_pos rfl] at H
     by_cases c63 : (x7_2.length : Int) > 500
     {
     rw [if_pos c63] at H
     have c63b0 : decide (500 < (x7_2.length : Int)) = true := decide_eq_true c63
     have c63b1 : decide (500 < x7_2.length) = true := decide_eq_true (by omega)
     clear c63
     replace H := Option.bind_eq_some_iff.mp H
     obtain ⟨t337, A640, H⟩ := H
     have A64 := Aside0.mk A640
     clear A640
     simp only [Option.some.injEq, Prod.mk.injEq] at H
     obtain ⟨rfl, rfl⟩ := H
     obtain ⟨Ao65, co65, eo65⟩ := Kd.R_slice HO_7.out
     subst eo65
     go_wp2_with (first | (go_at_call 60; (with_reducible refine (spec_l10Copy.calls _ _ l0 t337 _ ?side1 ?side2 A64.out).mono ?_); (case side1 => exact cS_ HR0 HB); (case side2 => exact HC0.out); rintro e w66 ⟨v338, rfl, ho0, hb⟩; have HO339 := Aside0.mk (Kd.R_lower (Kd.R_newB (Kd.R_new' ho0 (Kd.R_lt (kr_ HO_7))) (g := gb311) (o := .cells #[.string a1_0, .int .i64 a1_1, .string a1_2, .bool a1_3] 29 (0, 0)) (bk_ BK311)) (below_size (bw1_ HB GE311))); replace HO_7 := Aside0.mk (Kd.R_elder' (kr_ HO_7) (Kd.R_base ho0) hb); replace BK311 := Aside0.mk (blk_below (bk_ BK311) hb); replace HB := Aside0.mk (below_step (bw1_ HB GE311) hb); clear hb; (try clear ho0)))
     repeat (go_quiet (first | (go_at_call 60; (with_reducible refine (spec_l10Copy.calls _ _ l0 t337 _ ?side1 ?side2 A64.out).mono ?_); (case side1 => exact cS_ HR0 HB); (case side2 => exact HC0.out); rintro e w66 ⟨v338, rfl, ho0, hb⟩; have HO339 := Aside0.mk (Kd.R_lower (Kd.R_newB (Kd.R_new' ho0 (Kd.R_lt (kr_ HO_7))) (g := gb311) (o := .cells #[.string a1_0, .int .i64 a1_1, .string a1_2, .bool a1_3] 29 (0, 0)) (bk_ BK311)) (below_size (bw1_ HB GE311))); replace HO_7 := Aside0.mk (Kd.R_elder' (kr_ HO_7) (Kd.R_base ho0) hb); replace BK311 := Aside0.mk (blk_below (bk_ BK311) hb); replace HB := Aside0.mk (below_step (bw1_ HB GE311) hb); clear hb; (try clear ho0))); try go_wp2_with (first | (go_at_call 60; (with_reducible refine (spec_l10Copy.calls _ _ l0 t337 _ ?side1 ?side2 A64.out).mono ?_); (case side1 => exact cS_ HR0 HB); (case side2 => exact HC0.out); rintro e w66 ⟨v338, rfl, ho0, hb⟩; have HO339 := Aside0.mk (Kd.R_lower (Kd.R_newB (Kd.R_new' ho0 (Kd.R_lt (kr_ HO_7))) (g := gb311) (o := .cells #[.string a1_0, .int .i64 a1_1, .string a1_2, .bool a1_3] 29 (0, 0)) (bk_ BK311)) (below_size (bw1_ HB GE311))); replace HO_7 := Aside0.mk (Kd.R_elder' (kr_ HO_7) (Kd.R_base ho0) hb); replace BK311 := Aside0.mk (blk_below (bk_ BK311) hb); replace HB := Aside0.mk (below_step (bw1_ HB GE311) hb); clear hb; (try clear ho0))))
     go_ret2
     exact ⟨_, eR_, by (with_reducible repeat (first | apply Kd.R_alloc | apply Kd.R_drewN | apply Kd.R_drew)); exact Kd.R_mono HO339.out (fun _ hk => trivial), bw1_ HB GE311⟩}
     {
     rw [if_neg c63] at H
     have c63b0 : decide (500 < (x7_2.length : Int)) = false := decide_eq_false c63
     have c63b1 : decide (500 < x7_2.length) = false := decide_eq_false (by omega)
     clear c63
     simp only [Option.some.injEq, Prod.mk.injEq] at H
     obtain ⟨rfl, rfl⟩ := H
     obtain ⟨Ao67, co67, eo67⟩ := Kd.R_slice HO_7.out
     subst eo67
     go_wp2
     repeat (go_quiet (fail); try go_wp2)
     go_ret2
     exact ⟨_, eR_, by (with_reducible repeat (first | apply Kd.R_alloc | apply Kd.R_drewN | apply Kd.R_drew)); exact Kd.R_mono HO_7.out (fun _ hk => trivial), bw1_ HB GE311⟩}}
     {
     replace c62 := Bool.eq_false_iff.mpr c62
     subst c62
     rw [if_neg (show ¬ (false = true) by decide)] at H
     by_cases c68 : x7_2.length < 2932031007402
     {
     rw [if_pos c68] at H
     have LMc68 := Aside0.mk c68
     clear c68
     obtain ⟨y340, hy340⟩ : ∃ y_ : List (S29), y_ = (x7_2 ++ [(⟨a1_0, a1_1, a1_2, a1_3⟩ : S29)]) := ⟨_, rfl⟩
     replace H : (if (y340.length : Int) > 500 then ((spec_l10Copy.f l0).bind fun t343 => (some (t343, false))) else (some (y340, true))) = some (r1, r2) := rH_ hy340 H
     have Ny340 := Aside0.mk hy340
     clear hy340
     by_cases c69 : (y340.length : Int) > 500
     {
     rw [if_pos c69] at H
     have c69b0 : decide (500 < (y340.length : Int)) = true := decide_eq_true c69
     have c69b1 : decide (500 < y340.length) = true := decide_eq_true (by omega)
     clear c69
     replace H := Option.bind_eq_some_iff.mp H
     obtain ⟨t343, A700, H⟩ := H
     have A70 := Aside0.mk A700
     clear A700
     simp only [Option.some.injEq, Prod.mk.injEq] at H
     obtain ⟨rfl, rfl⟩ := H
     obtain ⟨hcz71_0, hcz71_1, hcz71_2, hcz71_3, hfz71_0, hfz71_1, hfz71_2, hfz71_3⟩ := zc4_ BK311
     go_wp2_with (first | ((with_reducible refine gate_builtin (b := .append) (xs := #[.tmp 79, .tmp 81]) rfl ?_); at_builtin; refine Kd.R_append k29 (w0 := w) w.heap.size rfl (.tmp 79) (.tmp 81) 24 29 (.agg #[(.string ⟨#[]⟩), (.int .i64 0), (.string ⟨#[]⟩), (.bool false)]) 48 rfl Tryd.underlying24 info29 rfl (by decide) (by omega) u7 x7_2 (⟨a1_0, a1_1, a1_2, a1_3⟩ : S29) [.string a1_0, .int .i64 a1_1, .string a1_2, .bool a1_3] (fun k_ => k_ ≠ gb311) (fun _ => False) rfl rfl ?aP (fun _ hk => hk.elim) ?aF ?aO ?aB ?aS ?aL ?_; (case aP => exact k29_mkM _ _ _ (⟨a1_0, a1_1, a1_2, a1_3⟩ : S29)); (case aB => exact (bw1_ HB GE311)); (case aF => exact (fun k_ hk => Kd.freshB (g := gb311) (o := .cells #[.string a1_0, .int .i64 a1_1, .string a1_2, .bool a1_3] 29 (0, 0)) (bk_ BK311) k_ hk)); (case aO => exact (kr_ HO_7)); (case aS => exact (below_size (bw1_ HB GE311))); (case aL => have := LMc68.out; omega); intro v341 w72 ho hb hg hat; rw [← Ny340.out] at ho; replace BK311 := Aside0.mk (blk_grown (g := gb311) (o := .cells #[.string a1_0, .int .i64 a1_1, .string a1_2, .bool a1_3] 29 (0, 0)) (bk_ BK311) hg (Kd.R_away HO_7.out (fun _ hk => hk))); replace HB := Aside0.mk (hb); have HO342 := Aside0.mk (ho); clear HO_7; clear ho hb hg hat; obtain ⟨Ao73, co73, eo73⟩ := Kd.R_slice HO342.out; subst eo73) | (go_at_call 60; (with_reducible refine (spec_l10Copy.calls _ _ l0 t343 _ ?side1 ?side2 A70.out).mono ?_); (case side1 => exact cS_ HR0 HB); (case side2 => exact HC0.out); rintro e w74 ⟨v344, rfl, ho0, hb⟩; have HO345 := Aside0.mk (Kd.R_lower (Kd.R_newB (Kd.R_new' ho0 (Kd.R_lt (kr_ HO342))) (g := gb311) (o := .cells #[.string a1_0, .int .i64 a1_1, .string a1_2, .bool a1_3] 29 (0, 0)) (bk_ BK311)) (below_size (bw1_ HB GE311))); replace HO342 := Aside0.mk (Kd.R_elder' (kr_ HO342) (Kd.R_base ho0) hb); replace BK311 := Aside0.mk (blk_below (bk_ BK311) hb); replace HB := Aside0.mk (below_step (bw1_ HB GE311) hb); clear hb; (try clear ho0)))
     repeat (go_quiet (first | ((with_reducible refine gate_builtin (b := .append) (xs := #[.tmp 79, .tmp 81]) rfl ?_); at_builtin; refine Kd.R_append k29 (w0 := w) w.heap.size rfl (.tmp 79) (.tmp 81) 24 29 (.agg #[(.string ⟨#[]⟩), (.int .i64 0), (.string ⟨#[]⟩), (.bool false)]) 48 rfl Tryd.underlying24 info29 rfl (by decide) (by omega) u7 x7_2 (⟨a1_0, a1_1, a1_2, a1_3⟩ : S29) [.string a1_0, .int .i64 a1_1, .string a1_2, .bool a1_3] (fun k_ => k_ ≠ gb311) (fun _ => False) rfl rfl ?aP (fun _ hk => hk.elim) ?aF ?aO ?aB ?aS ?aL ?_; (case aP => exact k29_mkM _ _ _ (⟨a1_0, a1_1, a1_2, a1_3⟩ : S29)); (case aB => exact (bw1_ HB GE311)); (case aF => exact (fun k_ hk => Kd.freshB (g := gb311) (o := .cells #[.string a1_0, .int .i64 a1_1, .string a1_2, .bool a1_3] 29 (0, 0)) (bk_ BK311) k_ hk)); (case aO => exact (kr_ HO_7)); (case aS => exact (below_size (bw1_ HB GE311))); (case aL => have := LMc68.out; omega); intro v341 w72 ho hb hg hat; rw [← Ny340.out] at ho; replace BK311 := Aside0.mk (blk_grown (g := gb311) (o := .cells #[.string a1_0, .int .i64 a1_1, .string a1_2, .bool a1_3] 29 (0, 0)) (bk_ BK311) hg (Kd.R_away HO_7.out (fun _ hk => hk))); replace HB := Aside0.mk (hb); have HO342 := Aside0.mk (ho); clear HO_7; clear ho hb hg hat; obtain ⟨Ao73, co73, eo73⟩ := Kd.R_slice HO342.out; subst eo73) | (go_at_call 60; (with_reducible refine (spec_l10Copy.calls _ _ l0 t343 _ ?side1 ?side2 A70.out).mono ?_); (case side1 => exact cS_ HR0 HB); (case side2 => exact HC0.out); rintro e w74 ⟨v344, rfl, ho0, hb⟩; have HO345 := Aside0.mk (Kd.R_lower (Kd.R_newB (Kd.R_new' ho0 (Kd.R_lt (kr_ HO342))) (g := gb311) (o := .cells #[.string a1_0, .int .i64 a1_1, .string a1_2, .bool a1_3] 29 (0, 0)) (bk_ BK311)) (below_size (bw1_ HB GE311))); replace HO342 := Aside0.mk (Kd.R_elder' (kr_ HO342) (Kd.R_base ho0) hb); replace BK311 := Aside0.mk (blk_below (bk_ BK311) hb); replace HB := Aside0.mk (below_step (bw1_ HB GE311) hb); clear hb; (try clear ho0))); try go_wp2_with (first | ((with_reducible refine gate_builtin (b := .append) (xs := #[.tmp 79, .tmp 81]) rfl ?_); at_builtin; refine Kd.R_append k29 (w0 := w) w.heap.size rfl (.tmp 79) (.tmp 81) 24 29 (.agg #[(.string ⟨#[]⟩), (.int .i64 0), (.string ⟨#[]⟩), (.bool false)]) 48 rfl Tryd.underlying24 info29 rfl (by decide) (by omega) u7 x7_2 (⟨a1_0, a1_1, a1_2, a1_3⟩ : S29) [.string a1_0, .int .i64 a1_1, .string a1_2, .bool a1_3] (fun k_ => k_ ≠ gb311) (fun _ => False) rfl rfl ?aP (fun _ hk => hk.elim) ?aF ?aO ?aB ?aS ?aL ?_; (case aP => exact k29_mkM _ _ _ (⟨a1_0, a1_1, a1_2, a1_3⟩ : S29)); (case aB => exact (bw1_ HB GE311)); (case aF => exact (fun k_ hk => Kd.freshB (g := gb311) (o := .cells #[.string a1_0, .int .i64 a1_1, .string a1_2, .bool a1_3] 29 (0, 0)) (bk_ BK311) k_ hk)); (case aO => exact (kr_ HO_7)); (case aS => exact (below_size (bw1_ HB GE311))); (case aL => have := LMc68.out; omega); intro v341 w72 ho hb hg hat; rw [← Ny340.out] at ho; replace BK311 := Aside0.mk (blk_grown (g := gb311) (o := .cells #[.string a1_0, .int .i64 a1_1, .string a1_2, .bool a1_3] 29 (0, 0)) (bk_ BK311) hg (Kd.R_away HO_7.out (fun _ hk => hk))); replace HB := Aside0.mk (hb); have HO342 := Aside0.mk (ho); clear HO_7; clear ho hb hg hat; obtain ⟨Ao73, co73, eo73⟩ := Kd.R_slice HO342.out; subst eo73) | (go_at_call 60; (with_reducible refine (spec_l10Copy.calls _ _ l0 t343 _ ?side1 ?side2 A70.out).mono ?_); (case side1 => exact cS_ HR0 HB); (case side2 => exact HC0.out); rintro e w74 ⟨v344, rfl, ho0, hb⟩; have HO345 := Aside0.mk (Kd.R_lower (Kd.R_newB (Kd.R_new' ho0 (Kd.R_lt (kr_ HO342))) (g := gb311) (o := .cells #[.string a1_0, .int .i64 a1_1, .string a1_2, .bool a1_3] 29 (0, 0)) (bk_ BK311)) (below_size (bw1_ HB GE311))); replace HO342 := Aside0.mk (Kd.R_elder' (kr_ HO342) (Kd.R_base ho0) hb); replace BK311 := Aside0.mk (blk_below (bk_ BK311) hb); replace HB := Aside0.mk (below_step (bw1_ HB GE311) hb); clear hb; (try clear ho0))))
     go_ret2
     exact ⟨_, eR_, by (with_reducible repeat (first | apply Kd.R_alloc | apply Kd.R_drewN | apply Kd.R_drew)); exact Kd.R_mono HO345.out (fun _ hk => trivial), bw1_ HB GE311⟩}
     {
     rw [if_neg c69] at H
     have c69b0 : decide (500 < (y340.length : Int)) = false := decide_eq_false c69
     have c69b1 : decide (500 < y340.length) = false := decide_eq_false (by omega)
     clear c69
     simp only [Option.some.injEq, Prod.mk.injEq] at H
     obtain ⟨rfl, rfl⟩ := H
     obtain ⟨hcz75_0, hcz75_1, hcz75_2, hcz75_3, hfz75_0, hfz75_1, hfz75_2, hfz75_3⟩ := zc4_ BK311
     go_wp2_with (first | ((with_reducible refine gate_builtin (b := .append) (xs := #[.tmp 79, .tmp 81]) rfl ?_); at_builtin; refine Kd.R_append k29 (w0 := w) w.heap.size rfl (.tmp 79) (.tmp 81) 24 29 (.agg #[(.string ⟨#[]⟩), (.int .i64 0), (.string ⟨#[]⟩), (.bool false)]) 48 rfl Tryd.underlying24 info29 rfl (by decide) (by omega) u7 x7_2 (⟨a1_0, a1_1, a1_2, a1_3⟩ : S29) [.string a1_0, .int .i64 a1_1, .string a1_2, .bool a1_3] (fun k_ => k_ ≠ gb311) (fun _ => False) rfl rfl ?aP (fun _ hk => hk.elim) ?aF ?aO ?aB ?aS ?aL ?_; (case aP => exact k29_mkM _ _ _ (⟨a1_0, a1_1, a1_2, a1_3⟩ : S29)); (case aB => exact (bw1_ HB GE311)); (case aF => exact (fun k_ hk => Kd.freshB (g := gb311) (o := .cells #[.string a1_0, .int .i64 a1_1, .string a1_2, .bool a1_3] 29 (0, 0)) (bk_ BK311) k_ hk)); (case aO => exact (kr_ HO_7)); (case aS => exact (below_size (bw1_ HB GE311))); (case aL => have := LMc68.out; omega); intro v341 w76 ho hb hg hat; rw [← Ny340.out] at ho; replace BK311 := Aside0.mk (blk_grown (g := gb311) (o := .cells #[.string a1_0, .int .i64 a1_1, .string a1_2, .bool a1_3] 29 (0, 0)) (bk_ BK311) hg (Kd.R_away HO_7.out (fun _ hk => hk))); replace HB := Aside0.mk (hb); have HO342 := Aside0.mk (ho); clear HO_7; clear ho hb hg hat; obtain ⟨Ao77, co77, eo77⟩ := Kd.R_slice HO342.out; subst eo77))
     repeat (go_quiet (first | ((with_reducible refine gate_builtin (b := .append) (xs := #[.tmp 79, .tmp 81]) rfl ?_); at_builtin; refine Kd.R_append k29 (w0 := w) w.heap.size rfl (.tmp 79) (.tmp 81) 24 29 (.agg #[(.string ⟨#[]⟩), (.int .i64 0), (.string ⟨#[]⟩), (.bool false)]) 48 rfl Tryd.underlying24 info29 rfl (by decide) (by omega) u7 x7_2 (⟨a1_0, a1_1, a1_2, a1_3⟩ : S29) [.string a1_0, .int .i64 a1_1, .string a1_2, .bool a1_3] (fun k_ => k_ ≠ gb311) (fun _ => False) rfl rfl ?aP (fun _ hk => hk.elim) ?aF ?aO ?aB ?aS ?aL ?_; (case aP => exact k29_mkM _ _ _ (⟨a1_0, a1_1, a1_2, a1_3⟩ : S29)); (case aB => exact (bw1_ HB GE311)); (case aF => exact (fun k_ hk => Kd.freshB (g := gb311) (o := .cells #[.string a1_0, .int .i64 a1_1, .string a1_2, .bool a1_3] 29 (0, 0)) (bk_ BK311) k_ hk)); (case aO => exact (kr_ HO_7)); (case aS => exact (below_size (bw1_ HB GE311))); (case aL => have := LMc68.out; omega); intro v341 w76 ho hb hg hat; rw [← Ny340.out] at ho; replace BK311 := Aside0.mk (blk_grown (g := gb311) (o := .cells #[.string a1_0, .int .i64 a1_1, .string a1_2, .bool a1_3] 29 (0, 0)) (bk_ BK311) hg (Kd.R_away HO_7.out (fun _ hk => hk))); replace HB := Aside0.mk (hb); have HO342 := Aside0.mk (ho); clear HO_7; clear ho hb hg hat; obtain ⟨Ao77, co77, eo77⟩ := Kd.R_slice HO342.out; subst eo77)); try go_wp2_with (first | ((with_reducible refine gate_builtin (b := .append) (xs := #[.tmp 79, .tmp 81]) rfl ?_); at_builtin; refine Kd.R_append k29 (w0 := w) w.heap.size rfl (.tmp 79) (.tmp 81) 24 29 (.agg #[(.string ⟨#[]⟩), (.int .i64 0), (.string ⟨#[]⟩), (.bool false)]) 48 rfl Tryd.underlying24 info29 rfl (by decide) (by omega) u7 x7_2 (⟨a1_0, a1_1, a1_2, a1_3⟩ : S29) [.string a1_0, .int .i64 a1_1, .string a1_2, .bool a1_3] (fun k_ => k_ ≠ gb311) (fun _ => False) rfl rfl ?aP (fun _ hk => hk.elim) ?aF ?aO ?aB ?aS ?aL ?_; (case aP => exact k29_mkM _ _ _ (⟨a1_0, a1_1, a1_2, a1_3⟩ : S29)); (case aB => exact (bw1_ HB GE311)); (case aF => exact (fun k_ hk => Kd.freshB (g := gb311) (o := .cells #[.string a1_0, .int .i64 a1_1, .string a1_2, .bool a1_3] 29 (0, 0)) (bk_ BK311) k_ hk)); (case aO => exact (kr_ HO_7)); (case aS => exact (below_size (bw1_ HB GE311))); (case aL => have := LMc68.out; omega); intro v341 w76 ho hb hg hat; rw [← Ny340.out] at ho; replace BK311 := Aside0.mk (blk_grown (g := gb311) (o := .cells #[.string a1_0, .int .i64 a1_1, .string a1_2, .bool a1_3] 29 (0, 0)) (bk_ BK311) hg (Kd.R_away HO_7.out (fun _ hk => hk))); replace HB := Aside0.mk (hb); have HO342 := Aside0.mk (ho); clear HO_7; clear ho hb hg hat; obtain ⟨Ao77, co77, eo77⟩ := Kd.R_slice HO342.out; subst eo77)))
     go_ret2
     exact ⟨_, eR_, by (with_reducible repeat (first | apply Kd.R_alloc | apply Kd.R_drewN | apply Kd.R_drew)); exact Kd.R_mono HO342.out (fun _ hk => trivial), bw1_ HB GE311⟩}}
     {
     rw [if_neg c68] at H
     exact absurd H (by simp)
}}}}
mutual
def spec_l10DrawTree.l0 : Nat → Int → List (S29) → Int → List Int → Int → Int → Option ((List (S29)) × Int × Int)
 | 0, _, _, _, _, _, _ => none
 | k + 1, x1, x5, x6, x1000, x1001, x1002 => if x6 < x1 then ((spec_l10DrawEntry.f k x1000 x1001 x1002).bind fun bt349 => ((spec_l10Up.f k bt349.1).bind fun t356 => (if t356.toList = ([] : List UInt8) then (spec_l10DrawTree.j1 k x1 x5 x6 t356 false x1000 bt349.2.2.2.2.1 bt349.2.2.2.2.2 bt349.1 bt349.2.1 bt349.2.2.1 bt349.2.2.2.1) else ((spec_l10Find.f k x5 t356).bind fun t357 => (if t357 < 0 then ((spec_l1Once.f x1000 bt349.2.2.2.2.1 bt349.2.2.2.2.2 6).bind fun bt358 => (spec_l10DrawTree.j1 k x1 x5 x6 t356 (!bt358.1) x1000 bt358.2.1 bt358.2.2 bt349.1 bt349.2.1 bt349.2.2.1 bt349.2.2.2.1)) else (spec_l10DrawTree.j1 k x1 x5 x6 t356 false x1000 bt349.2.2.2.2.1 bt349.2.2.2.2.2 bt349.1 bt349.2.1 bt349.2.2.1 bt349.2.2.2.1)))))) else (some (x5, x1001, x1002))
def spec_l10DrawTree.j1 : Nat → Int → List (S29) → Int → ByteArray → Bool → List Int → Int → Int → ByteArray → Int → ByteArray → Bool → Option ((List (S29)) × Int × Int)
 | 0, _, _, _, _, _, _, _, _, _, _, _, _ => none
 | k + 1, x1, x5, x6, x8, x39, x1000, x1001, x1002, x356000, x356001, x356002, x356003 => if x39 = true then ((spec_l10Up.f k x8).bind fun t361 => (if t361.toList = ([] : List UInt8) then ((spec_l10Put.f k x5 x8 1 (⟨#[]⟩ : ByteArray) false).bind fun bt362 => ((spec_l10Put.f k bt362.1 x356000 x356001 x356002 x356003).bind fun bt366 => (spec_l10DrawTree.l0 k x1 bt366.1 (wrap64 (x6 + 1)) x1000 x1001 x1002))) else ((spec_l10Up.f k x8).bind fun t370 => ((spec_l10Put.f k x5 t370 1 (⟨#[]⟩ : ByteArray) false).bind fun bt371 => ((spec_l10Put.f k bt371.1 x8 1 (⟨#[]⟩ : ByteArray) false).bind fun bt375 => ((spec_l10Put.f k bt375.1 x356000 x356001 x356002 x356003).bind fun bt379 => (spec_l10DrawTree.l0 k x1 bt379.1 (wrap64 (x6 + 1)) x1000 x1001 x1002))))))) else ((spec_l10Put.f k x5 x356000 x356001 x356002 x356003).bind fun bt383 => (spec_l10DrawTree.l0 k x1 bt383.1 (wrap64 (x6 + 1)) x1000 x1001 x1002))
end
def spec_l10DrawTree.f (k : Nat) (s0_0 : List Int) (s0_1 : Int) (s0_2 : Int) (a1 : Int) : Option ((List (S29)) × Int × Int) := spec_l10DrawTree.l0 k a1 (([] : List (S29))) 0 s0_0 s0_1 s0_2
theorem spec_l10DrawTree.calls (k : Nat) (g : Nat) (s0_0 : List Int) (s0_1 : Int) (s0_2 : Int) (a1 : Int) (r1 : List (S29)) (r2 : Int) (r3 : Int) (w0 w : World) (hI : IsS72 w0 w g s0_0 s0_1 s0_2) (hB : Below w0.heap.size w0 w) (h : spec_l10DrawTree.f k s0_0 s0_1 s0_2 a1 = some (r1, r2, r3)) :
 Calls Tryd.prog 31 #[.pointer (some ⟨g, 0, none⟩), .int .i64 a1] w fun e w' => ∃ v0_ : Value, e = .returned (v0_) ∧ Kd.R k29 29 w' w.heap.size (fun _ => True) v0_ r1 ∧ IsS72 w0 w' g s0_0 r2 r3 ∧ Below w0.heap.size w0 w' ∧ KeepBut w w' g none := by
 have hu29 := Tryd.underlying29
 have HI0 := Aside0.mk hI
 have HK := Aside0.mk (KeepBut.refl w g none)
 have HL := Aside0.mk hB.size
 clear hI
 have HW0 := Aside0.mk hB.size
 have HB := Aside0.mk hB
 clear hB
 have H : (spec_l10DrawTree.l0 k a1 (([] : List (S29))) 0 s0_0 s0_1 s0_2) = some (r1, r2, r3) := h
 clear h
 obtain ⟨y346, hy346⟩ : ∃ y_ : List (S29), y_ = (([] : List (S29))) := ⟨_, rfl⟩
 replace H : (spec_l10DrawTree.l0 k a1 y346 0 s0_0 s0_1 s0_2) = some (r1, r2, r3) := rH_ hy346 H
 have Ny346 := Aside0.mk hy346
 clear hy346
 have H' := Aside0.mk H
 clear H
 go_enter Tryd.func31, Tryd.ntmps31
 go_wp2_with (first | ((with_reducible refine gate_dst (N := 16) rfl ?_); refine Kd.R_lit k29 _ 29 ?hg (N := 16) ?hd (xs := ([] : List (S29))) (inner := []) (ok := fun _ => True) (okp := fun _ => True) ?hr ?hp (fun _ hk => hk) trivial (Below.refl _ _) (Nat.le_refl _) (by simp) ?_; (case hd => rfl); (case hg => rfl); (case hr => first | (go_simp; done) | (go_simp; rfl)); (case hp => exact (Reps.none _ _)); intro v347 w3 ho4 hb hg_ hnew_; clear hg_ hnew_; (first | rw [← Ny346.out] at ho4 | (simp only [Int.reduceToNat] at ho4; rw [← Ny346.out] at ho4)); have HO348 := Aside0.mk (Kd.R_lower ho4 (keep_size (w := w) (g := g) (row := none) (kb_ HK))); replace HK := Aside0.mk (KeepBut.trans (kb_ HK) (KeepBut.of_below hb g none) (.inl rfl)); replace HB := Aside0.mk (below_step (bwg_ HB (IsS72.ge HI0.out)) hb); replace HI0 := Aside0.mk (IsS72.below (is72_ HI0) hb); clear hb ho4))
 go_loopg [5, 6] k (fun kq v5 v6 w' => ∃ (x5_1 : List (S29)) (x6_1 : Int) (x1001_1 : Int) (x1002_1 : Int), v6 = .int .i64 x6_1 ∧ Aside0 (spec_l10DrawTree.l0 kq a1 x5_1 x6_1 s0_0 x1001_1 x1002_1 = some (r1, r2, r3)) ∧ Aside0 (kq ≤ k) ∧ Aside0 (Kd.R k29 29 w' w.heap.size (fun _ => True) v5 x5_1) ∧ Aside0 (IsS72 w0 w' g s0_0 x1001_1 x1002_1) ∧ Aside0 (KeepBut w w' g none) ∧ Aside0 (Below w0.heap.size w0 w'))
 case atStart => exact ⟨(y346), (0), (s0_1), (s0_2), (by first | rfl | (simp; done) | (simp [*]; done)), H', ⟨Nat.le_refl _⟩, ⟨kr_ HO348⟩, ⟨is72_ HI0⟩, ⟨kb_ HK⟩, ⟨bwg_ HB (IsS72.ge HI0.out)⟩⟩
 case round =>
  clear H'
  try clear p2
  try clear c3
  obtain ⟨x5_1, x6_1, x1001_1, x1002_1, rfl, HA, HK1, HO_5, HI0, HK, HB⟩ := hrel
  cases gk with
  | zero => exact absurd HA.out (by simp [spec_l10DrawTree.l0])
  | succ k1 =>
   have H := HA.out
   clear HA
   simp only [spec_l10DrawTree.l0] at H
   by_cases c5 : x6_1 < a1
   {
   rw [if_pos c5] at H
   have c5b0 := decide_eq_true c5
   clear c5
   replace H := Option.bind_eq_some_iff.mp H
   obtain ⟨⟨t349, t350, t351, t352, t353, t354⟩, A60, H⟩ := H
   have A6 := Aside0.mk A60
   clear A60
   replace H := Option.bind_eq_some_iff.mp H
   obtain ⟨t356, A70, H⟩ := H
   have A7 := Aside0.mk A70
   clear A70
   have HC8 := Aside0.mk H
   clear H
   go_upto_region 7 with (first | ((with_reducible refine gate_callee (f := 26) rfl ?_); refine gL_ (some 23) Tryd.func26 #[.pointer (some ⟨g, 0, none⟩)] ?_; (with_reducible refine (spec_l10DrawEntry.calls k1 g s0_0 x1001_1 x1002_1 t349 t350 t351 t352 t353 t354 w0 _ ?side1 ?side2 A6.out).mono ?_); (case side1 => exact is72_ HI0); (case side2 => repeat (first | (with_reducible first | exact HB.out | apply below_alloc | apply pw_below_drewN | apply below_drew1 | refine below_set ?_ (IsS72.ge HI0.out)) | exact HB.out)); rintro e w9 ⟨rfl, hi, hb, hk⟩; refine ⟨_, rfl, ?_⟩; replace HO_5 := Aside0.mk (Kd.R_mono (Kd.R_keep (IsS72.apart (show IsS72 w0 _ g s0_0 x1001_1 x1002_1 from is72_ HI0) (kr_ HO_5) (by decide)) hk (fun _ h => h.2)) (fun _ h => h.1)); replace HK := Aside0.mk (KeepBut.trans (kb_ HK) hk (.inl rfl)); replace HB := Aside0.mk (hb); replace HI0 := Aside0.mk (hi); clear hb hk hi) | ((with_reducible refine gate_dst (N := 7) rfl ?_); refine bE_ 7 #[.string (⟨#[]⟩ : ByteArray), .int .i64 0, .string (⟨#[]⟩ : ByteArray), .bool false] 29 ?_; intro gb355 hg w10 hbox hb; replace HO_5 := Aside0.mk (Kd.R_below (Kd.R_elderB (kr_ HO_5) gb355 (Nat.le_of_eq hg.symm)) hb); replace HB := Aside0.mk (below_step (bwg_ HB (IsS72.ge HI0.out)) hb); have BK355 := Aside0.mk (hbox); have GW355 := Aside0.mk ((by rw [hg]; exact (keep_size (w := w) (g := g) (row := none) (kb_ HK)) : w.heap.size ≤ gb355)); have GE355 := Aside0.mk ((Nat.le_trans HW0.out (by rw [hg]; exact (keep_size (w := w) (g := g) (row := none) (kb_ HK)) : w.heap.size ≤ gb355) : w0.heap.size ≤ gb355)); replace HK := Aside0.mk (KeepBut.trans (kb_ HK) (KeepBut.of_below hb g none) (.inl rfl)); have NB0_355 := Aside0.mk ((by rw [hg]; exact Nat.ne_of_lt (IsS72.lt (show IsS72 w0 _ g s0_0 t353 t354 from is72_ HI0)) : g ≠ gb355)); have NB355_0 := Aside0.mk ((by rw [hg]; exact Nat.ne_of_gt (IsS72.lt (show IsS72 w0 _ g s0_0 t353 t354 from is72_ HI0)) : gb355 ≠ g)); replace HI0 := Aside0.mk (IsS72.below (is72_ HI0) hb); clear hb hbox hg; have hnb11 := NB355_0.out; have hnc11 := NB0_355.out; obtain ⟨hcz12_0, hcz12_1, hcz12_2, hcz12_3, hfz12_0, hfz12_1, hfz12_2, hfz12_3⟩ := zc4_ BK355) | ((with_reducible refine gate_callee (f := 28) rfl ?_); refine gL_ (some 26) Tryd.func28 #[.string t349] ?_; (with_reducible refine (spec_l10Up.calls k1 t349 t356 _ A7.out).mono ?_); rintro e w' ⟨rfl, ⟨nd, rfl⟩⟩; refine ⟨_, rfl, ?_⟩))
   (try simp only [Act.put, List.setIfInBounds_toArray, List.set_cons_zero, List.set_cons_succ])
   go_cut [39] (fun v39 wc => ∃ (kq : Nat) (x39_7 : Bool) (x1001_7 : Int) (x1002_7 : Int), v39 = .bool x39_7 ∧ Aside0 (spec_l10DrawTree.j1 kq a1 x5_1 x6_1 t356 x39_7 s0_0 x1001_7 x1002_7 t349 t350 t351 t352 = some (r1, r2, r3)) ∧ Aside0 (kq ≤ k1) ∧ Aside0 (Kd.R k29 29 wc w.heap.size (fun k_ => k_ ≠ gb355) u5 x5_1) ∧ Aside0 (wc.heap[gb355]? = some (.cells #[.string t349, .int .i64 t350, .string t351, .bool t352] 29 (0, 0))) ∧ Aside0 (IsS72 w0 wc g s0_0 x1001_7 x1002_7) ∧ Aside0 (KeepBut w wc g none) ∧ Aside0 (Below w0.heap.size w0 wc))
   case first =>
    have H := HC8.out
    clear HC8
    by_cases c13 : t356.toList = ([] : List UInt8)
    {
    rw [if_pos c13] at H
    have c13b0 : (t356.toList == ([] : List UInt8)) = true := beq_iff_eq.mpr c13
    have c13b1 : (t356.toList != ([] : List UInt8)) = false := bne_eq_false_iff_eq.mpr c13
    clear c13
    (first | rw [c13b0] | (simp only [i64_w, i32_w]; rw [c13b0]) | skip)
    have H' := Aside0.mk H
    clear H
    go_wp2
    go_meet
    case rel => exact ⟨_, (false), (t353), (t354), (by first | rfl | (simp; done) | (simp [*]; done)), H', ⟨by have := HK1.out; first | omega | exact Nat.le_refl _⟩, ⟨by (with_reducible repeat (first | apply Kd.R_alloc | apply Kd.R_drewN | apply Kd.R_drew)); exact Kd.R_mono (Kd.R_far (p := ⟨gb355, 3, none⟩) (Kd.R_far (p := ⟨gb355, 2, none⟩) (Kd.R_far (p := ⟨gb355, 1, none⟩) (Kd.R_far (p := ⟨gb355, 0, none⟩) (Kd.R_mono HO_5.out (fun k_ hk => (⟨hk, hk.2⟩ : _ ∧ k_ ≠ gb355))) (fun _ hk => hk.2) (.string t349)) (fun _ hk => hk.2) (.int .i64 t350)) (fun _ hk => hk.2) (.string t351)) (fun _ hk => hk.2) (.bool t352)) (fun _ hk => hk.1.2)⟩, ⟨by (with_reducible repeat (first | refine blk_drewN ?_ _ | refine blk_drew ?_ | refine blk_alloc ?_ _)); refine blk_put (cs := #[.string t349, .int .i64 t350, .string t351, .bool false]) ?_ 3 _ rfl; (with_reducible repeat (first | refine blk_drewN ?_ _ | refine blk_drew ?_ | refine blk_alloc ?_ _)); refine blk_put (cs := #[.string t349, .int .i64 t350, .string (⟨#[]⟩ : ByteArray), .bool false]) ?_ 2 _ rfl; (with_reducible repeat (first | refine blk_drewN ?_ _ | refine blk_drew ?_ | refine blk_alloc ?_ _)); refine blk_put (cs := #[.string t349, .int .i64 0, .string (⟨#[]⟩ : ByteArray), .bool false]) ?_ 1 _ rfl; (with_reducible repeat (first | refine blk_drewN ?_ _ | refine blk_drew ?_ | refine blk_alloc ?_ _)); refine blk_put (cs := #[.string (⟨#[]⟩ : ByteArray), .int .i64 0, .string (⟨#[]⟩ : ByteArray), .bool false]) ?_ 0 _ rfl; exact bk_ BK355⟩, ⟨by repeat (first | (with_reducible first | exact HI0.out | apply IsS72.alloc | apply IsS72.drewN | apply IsS72.drew | apply IsS72.set_1 | apply IsS72.set_2 | refine IsS72.far ?_ NB0_355.out _) | exact HI0.out)⟩, ⟨by repeat (first | (with_reducible first | exact HK.out | apply KeepBut.set_ | apply keep_drewN | apply keep_drew | apply keep_alloc | refine keep_far ?_ GW355.out _) | exact HK.out)⟩, ⟨by repeat (first | (with_reducible first | exact HB.out | apply below_alloc | apply pw_below_drewN | apply below_drew1 | refine below_set ?_ (IsS72.ge HI0.out) | refine below_set ?_ GE355.out) | exact HB.out)⟩⟩}
    {
    rw [if_neg c13] at H
    have c13b0 : (t356.toList == ([] : List UInt8)) = false := beq_eq_false_iff_ne.mpr c13
    have c13b1 : (t356.toList != ([] : List UInt8)) = true := bne_iff_ne.mpr c13
    (first | rw [c13b0] | (simp only [i64_w, i32_w]; rw [c13b0]) | skip)
    replace H := Option.bind_eq_some_iff.mp H
    obtain ⟨t357, A140, H⟩ := H
    have A14 := Aside0.mk A140
    clear A140
    by_cases c15 : t357 < 0
    {
    rw [if_pos c15] at H
    have c15b0 := decide_eq_true c15
    clear c15
    replace H := Option.bind_eq_some_iff.mp H
    obtain ⟨⟨t358, t359, t360⟩, A160, H⟩ := H
    have A16 := Aside0.mk A160
    clear A160
    have H' := Aside0.mk H
    clear H
    obtain ⟨Ao17, co17, eo17⟩ := Kd.R_slice HO_5.out
    subst eo17
    go_wp2_with (first | (go_at_call 52; (with_reducible refine (spec_l10Find.calls k1 _ _ x5_1 t356 t357 _ ?side1 ?side2 A14.out).mono ?_); (case side1 => refine (Kd.R_reads' (e := 29) (base := w.heap.size) (ok := fun k_ => (True ∧ k_ ≠ gb355)) (n := x5_1.length) (c := co17) ?_).2.2; exact (by (with_reducible repeat (first | apply Kd.R_alloc | apply Kd.R_drewN | apply Kd.R_drew)); exact (Kd.R_mono (Kd.R_far (p := ⟨gb355, 3, none⟩) (Kd.R_far (p := ⟨gb355, 2, none⟩) (Kd.R_far (p := ⟨gb355, 1, none⟩) (Kd.R_far (p := ⟨gb355, 0, none⟩) (Kd.R_mono HO_5.out (fun k_ hk => (⟨hk, hk.2⟩ : _ ∧ k_ ≠ gb355))) (fun _ hk => hk.2) (.string t349)) (fun _ hk => hk.2) (.int .i64 t350)) (fun _ hk => hk.2) (.string t351)) (fun _ hk => hk.2) (.bool t352)) (fun _ h_ => h_.1)))); (case side2 => exact (Kd.R_reads' HO_5.out).2.1); rintro e w' ⟨rfl, ⟨nd, rfl⟩⟩) | (go_at_call 47; (with_reducible refine (spec_l1Once.calls g s0_0 t353 t354 6 t358 t359 t360 w0 _ ?side1 ?side2 A16.out).mono ?_); (case side1 => repeat (first | (with_reducible first | exact HI0.out | apply IsS72.alloc | apply IsS72.drewN | apply IsS72.drew | apply IsS72.set_1 | apply IsS72.set_2 | refine IsS72.far ?_ NB0_355.out _) | exact HI0.out)); (case side2 => repeat (first | (with_reducible first | exact HB.out | apply below_alloc | apply pw_below_drewN | apply below_drew1 | refine below_set ?_ (IsS72.ge HI0.out) | refine below_set ?_ GE355.out) | exact HB.out)); rintro e w18 ⟨rfl, hi, hb, hk⟩; replace HO_5 := Aside0.mk (Kd.R_mono (Kd.R_keep (IsS72.apart (show IsS72 w0 _ g s0_0 t353 t354 from by repeat (first | (with_reducible first | exact HI0.out | apply IsS72.alloc | apply IsS72.drewN | apply IsS72.drew | apply IsS72.set_1 | apply IsS72.set_2 | refine IsS72.far ?_ NB0_355.out _) | exact HI0.out)) (by (with_reducible repeat (first | apply Kd.R_alloc | apply Kd.R_drewN | apply Kd.R_drew)); exact (Kd.R_mono (Kd.R_far (p := ⟨gb355, 3, none⟩) (Kd.R_far (p := ⟨gb355, 2, none⟩) (Kd.R_far (p := ⟨gb355, 1, none⟩) (Kd.R_far (p := ⟨gb355, 0, none⟩) (Kd.R_mono HO_5.out (fun k_ hk => (⟨hk, hk.2⟩ : _ ∧ k_ ≠ gb355))) (fun _ hk => hk.2) (.string t349)) (fun _ hk => hk.2) (.int .i64 t350)) (fun _ hk => hk.2) (.string t351)) (fun _ hk => hk.2) (.bool t352)) (fun _ h_ => h_.1))) (by decide)) hk (fun _ h => h.2)) (fun _ h => h.1)); replace BK355 := Aside0.mk (KeepBut.blk hk (g' := gb355) (o := .cells #[.string t349, .int .i64 t350, .string t351, .bool t352] 29 (0, 0)) (by (with_reducible repeat (first | refine blk_drewN ?_ _ | refine blk_drew ?_ | refine blk_alloc ?_ _)); refine blk_put (cs := #[.string t349, .int .i64 t350, .string t351, .bool false]) ?_ 3 _ rfl; (with_reducible repeat (first | refine blk_drewN ?_ _ | refine blk_drew ?_ | refine blk_alloc ?_ _)); refine blk_put (cs := #[.string t349, .int .i64 t350, .string (⟨#[]⟩ : ByteArray), .bool false]) ?_ 2 _ rfl; (with_reducible repeat (first | refine blk_drewN ?_ _ | refine blk_drew ?_ | refine blk_alloc ?_ _)); refine blk_put (cs := #[.string t349, .int .i64 0, .string (⟨#[]⟩ : ByteArray), .bool false]) ?_ 1 _ rfl; (with_reducible repeat (first | refine blk_drewN ?_ _ | refine blk_drew ?_ | refine blk_alloc ?_ _)); refine blk_put (cs := #[.string (⟨#[]⟩ : ByteArray), .int .i64 0, .string (⟨#[]⟩ : ByteArray), .bool false]) ?_ 0 _ rfl; exact bk_ BK355) NB355_0.out (by simp)); replace HK := Aside0.mk (KeepBut.trans (by repeat (first | (with_reducible first | exact HK.out | apply KeepBut.set_ | apply keep_drewN | apply keep_drew | apply keep_alloc | refine keep_far ?_ GW355.out _) | exact HK.out)) hk (.inl rfl)); replace HB := Aside0.mk (hb); replace HI0 := Aside0.mk (hi); clear hb hk hi))
    go_meet
    case rel => exact ⟨_, (!t358), (t359), (t360), (by first | rfl | (simp; done) | (simp [*]; done)), H', ⟨by have := HK1.out; first | omega | exact Nat.le_refl _⟩, ⟨by (with_reducible repeat (first | apply Kd.R_alloc | apply Kd.R_drewN | apply Kd.R_drew)); exact Kd.R_mono HO_5.out (fun _ hk => hk.2)⟩, ⟨bk_ BK355⟩, ⟨by repeat (first | (with_reducible first | exact HI0.out | apply IsS72.alloc | apply IsS72.drewN | apply IsS72.drew | apply IsS72.set_1 | apply IsS72.set_2 | refine IsS72.far ?_ NB0_355.out _) | exact HI0.out)⟩, ⟨by repeat (first | (with_reducible first | exact HK.out | apply KeepBut.set_ | apply keep_drewN | apply keep_drew | apply keep_alloc | refine keep_far ?_ GW355.out _) | exact HK.out)⟩, ⟨by repeat (first | (with_reducible first | exact HB.out | apply below_alloc | apply pw_below_drewN | apply below_drew1 | refine below_set ?_ (IsS72.ge HI0.out) | refine below_set ?_ GE355.out) | exact HB.out)⟩⟩}
    {
    rw [if_neg c15] at H
    have c15b0 := decide_eq_false c15
    clear c15
    have H' := Aside0.mk H
    clear H
    obtain ⟨Ao19, co19, eo19⟩ := Kd.R_slice HO_5.out
    subst eo19
    go_wp2_with (first | (go_at_call 52; (with_reducible refine (spec_l10Find.calls k1 _ _ x5_1 t356 t357 _ ?side1 ?side2 A14.out).mono ?_); (case side1 => refine (Kd.R_reads' (e := 29) (base := w.heap.size) (ok := fun k_ => (True ∧ k_ ≠ gb355)) (n := x5_1.length) (c := co19) ?_).2.2; exact (by (with_reducible repeat (first | apply Kd.R_alloc | apply Kd.R_drewN | apply Kd.R_drew)); exact (Kd.R_mono (Kd.R_far (p := ⟨gb355, 3, none⟩) (Kd.R_far (p := ⟨gb355, 2, none⟩) (Kd.R_far (p := ⟨gb355, 1, none⟩) (Kd.R_far (p := ⟨gb355, 0, none⟩) (Kd.R_mono HO_5.out (fun k_ hk => (⟨hk, hk.2⟩ : _ ∧ k_ ≠ gb355))) (fun _ hk => hk.2) (.string t349)) (fun _ hk => hk.2) (.int .i64 t350)) (fun _ hk => hk.2) (.string t351)) (fun _ hk => hk.2) (.bool t352)) (fun _ h_ => h_.1)))); (case side2 => exact (Kd.R_reads' HO_5.out).2.1); rintro e w' ⟨rfl, ⟨nd, rfl⟩⟩))
    go_meet
    case rel => exact ⟨_, (false), (t353), (t354), (by first | rfl | (simp; done) | (simp [*]; done)), H', ⟨by have := HK1.out; first | omega | exact Nat.le_refl _⟩, ⟨by (with_reducible repeat (first | apply Kd.R_alloc | apply Kd.R_drewN | apply Kd.R_drew)); exact Kd.R_mono (Kd.R_far (p := ⟨gb355, 3, none⟩) (Kd.R_far (p := ⟨gb355, 2, none⟩) (Kd.R_far (p := ⟨gb355, 1, none⟩) (Kd.R_far (p := ⟨gb355, 0, none⟩) (Kd.R_mono HO_5.out (fun k_ hk => (⟨hk, hk.2⟩ : _ ∧ k_ ≠ gb355))) (fun _ hk => hk.2) (.string t349)) (fun _ hk => hk.2) (.int .i64 t350)) (fun _ hk => hk.2) (.string t351)) (fun _ hk => hk.2) (.bool t352)) (fun _ hk => hk.1.2)⟩, ⟨by (with_reducible repeat (first | refine blk_drewN ?_ _ | refine blk_drew ?_ | refine blk_alloc ?_ _)); refine blk_put (cs := #[.string t349, .int .i64 t350, .string t351, .bool false]) ?_ 3 _ rfl; (with_reducible repeat (first | refine blk_drewN ?_ _ | refine blk_drew ?_ | refine blk_alloc ?_ _)); refine blk_put (cs := #[.string t349, .int .i64 t350, .string (⟨#[]⟩ : ByteArray), .bool false]) ?_ 2 _ rfl; (with_reducible repeat (first | refine blk_drewN ?_ _ | refine blk_drew ?_ | refine blk_alloc ?_ _)); refine blk_put (cs := #[.string t349, .int .i64 0, .string (⟨#[]⟩ : ByteArray), .bool false]) ?_ 1 _ rfl; (with_reducible repeat (first | refine blk_drewN ?_ _ | refine blk_drew ?_ | refine blk_alloc ?_ _)); refine blk_put (cs := #[.string (⟨#[]⟩ : ByteArray), .int .i64 0, .string (⟨#[]⟩ : ByteArray), .bool false]) ?_ 0 _ rfl; exact bk_ BK355⟩, ⟨by repeat (first | (with_reducible first | exact HI0.out | apply IsS72.alloc | apply IsS72.drewN | apply IsS72.drew | apply IsS72.set_1 | apply IsS72.set_2 | refine IsS72.far ?_ NB0_355.out _) | exact HI0.out)⟩, ⟨by repeat (first | (with_reducible first | exact HK.out | apply KeepBut.set_ | apply keep_drewN | apply keep_drew | apply keep_alloc | refine keep_far ?_ GW355.out _) | exact HK.out)⟩, ⟨by repeat (first | (with_reducible first | exact HB.out | apply below_alloc | apply pw_below_drewN | apply below_drew1 | refine below_set ?_ (IsS72.ge HI0.out) | refine below_set ?_ GE355.out) | exact HB.out)⟩⟩}}
   case rest =>
    clear HC8
    try clear c1
    try clear c2
    try clear p2
    try clear c3
    try clear c5
    try clear c5b0
    try clear c11
    try clear c13
    try clear c13b0
    try clear c13b1
    try clear c15
    try clear c15b0
    try clear hcz12_0 hcz12_1 hcz12_2 hcz12_3
    try clear hfz12_0 hfz12_1 hfz12_2 hfz12_3
    try clear p2
    obtain ⟨kq, x39_7, x1001_7, x1002_7, rfl, HA, HJ7, HO_5, BK355, HI0, HK, HB⟩ := hcut
    cases kq with
    | zero => exact absurd HA.out (by simp [spec_l10DrawTree.j1])
    | succ kj7 =>
     have H := HA.out
     clear HA
     simp only [spec_l10DrawTree.j1] at H
     by_cases c20 : x39_7 = true
     {
     subst c20
     rw [if_pos rfl] at H
     replace H := Option.bind_eq_some_iff.mp H
     obtain ⟨t361, A210, H⟩ := H
     have A21 := Aside0.mk A210
     clear A210
     by_cases c22 : t361.toList = ([] : List UInt8)
     {
     rw [if_pos c22] at H
     have c22b0 : (t361.toList == ([] : List UInt8)) = true := beq_iff_eq.mpr c22
     have c22b1 : (t361.toList != ([] : List UInt8)) = false := bne_eq_false_iff_eq.mpr c22
     clear c22
     replace H := Option.bind_eq_some_iff.mp H
     obtain ⟨⟨t362, t365⟩, A230, H⟩ := H
     have A23 := Aside0.mk A230
     clear A230
     replace H := Option.bind_eq_some_iff.mp H
     obtain ⟨⟨t366, t369⟩, A240, H⟩ := H
     have A24 := Aside0.mk A240
     clear A240
     have H' := Aside0.mk H
     clear H
     go_wp2_with (first | ((with_reducible refine gate_callee (f := 28) rfl ?_); refine gL_ (some 42) Tryd.func28 #[.string t356] ?_; (with_reducible refine (spec_l10Up.calls kj7 t356 t361 _ A21.out).mono ?_); rintro e w' ⟨rfl, ⟨nd, rfl⟩⟩; refine ⟨_, rfl, ?_⟩; obtain ⟨Ao25, co25, eo25⟩ := Kd.R_slice HO_5.out; subst eo25) | ((with_reducible refine gate_callee (f := 41) rfl ?_); refine gL_ (some 57) Tryd.func41 #[.slice Ao25 x5_1.length co25, .agg #[.string t356, .int .i64 1, .string (⟨#[]⟩ : ByteArray), .bool false]] ?_; (with_reducible refine (spec_l10Put.calls kj7 _ _ x5_1 t356 1 (⟨#[]⟩ : ByteArray) false t362 t365 _ ?side1 ?side2 A23.out).mono ?_); (case side1 => exact cR_ HO_5); (case side2 => exact (Kd.R_reads' HO_5.out).2.1); rintro e w26 ⟨v363, rfl, ho0, hb⟩; refine ⟨_, rfl, ?_⟩; have HO364 := Aside0.mk (Kd.R_lower (Kd.R_newB (Kd.R_new' ho0 (Kd.R_lt (kr_ HO_5))) (g := gb355) (o := .cells #[.string t349, .int .i64 t350, .string t351, .bool t352] 29 (0, 0)) (bk_ BK355)) (keep_size (w := w) (g := g) (row := none) (by repeat (first | (with_reducible first | exact HK.out | apply KeepBut.set_ | apply keep_drewN | apply keep_drew | apply keep_alloc | refine keep_far ?_ GW355.out _) | exact HK.out)))); replace HO_5 := Aside0.mk (Kd.R_elder' (kr_ HO_5) (Kd.R_base ho0) hb); replace BK355 := Aside0.mk (blk_below (bk_ BK355) hb); replace HK := Aside0.mk (KeepBut.trans (by repeat (first | (with_reducible first | exact HK.out | apply KeepBut.set_ | apply keep_drewN | apply keep_drew | apply keep_alloc | refine keep_far ?_ GW355.out _) | exact HK.out)) (KeepBut.of_below hb g none) (.inl rfl)); replace HB := Aside0.mk (below_step (by repeat (first | (with_reducible first | exact HB.out | apply below_alloc | apply pw_below_drewN | apply below_drew1 | refine below_set ?_ (IsS72.ge HI0.out) | refine below_set ?_ GE355.out) | exact HB.out)) hb); replace HI0 := Aside0.mk (IsS72.below (by repeat (first | (with_reducible first | exact HI0.out | apply IsS72.alloc | apply IsS72.drewN | apply IsS72.drew | apply IsS72.set_1 | apply IsS72.set_2 | refine IsS72.far ?_ NB0_355.out _) | exact HI0.out)) hb); clear hb; (try clear ho0); have hnb27 := NB355_0.out; have hnc27 := NB0_355.out; obtain ⟨hcz28_0, hcz28_1, hcz28_2, hcz28_3, hfz28_0, hfz28_1, hfz28_2, hfz28_3⟩ := zc4_ BK355; obtain ⟨Ao29, co29, eo29⟩ := Kd.R_slice HO364.out; subst eo29) | ((with_reducible refine gate_callee (f := 41) rfl ?_); refine gL_ (some 64) Tryd.func41 #[.slice Ao29 t362.length co29, .agg #[.string t349, .int .i64 t350, .string t351, .bool t352]] ?_; (with_reducible refine (spec_l10Put.calls kj7 _ _ t362 t349 t350 t351 t352 t366 t369 _ ?side1 ?side2 A24.out).mono ?_); (case side1 => exact cR_ HO364); (case side2 => exact (Kd.R_reads' HO364.out).2.1); rintro e w30 ⟨v367, rfl, ho0, hb⟩; refine ⟨_, rfl, ?_⟩; have HO368 := Aside0.mk (Kd.R_lower (Kd.R_newB (Kd.R_new' (Kd.R_new' ho0 (Kd.R_lt (kr_ HO_5))) (Kd.R_lt (kr_ HO364))) (g := gb355) (o := .cells #[.string t349, .int .i64 t350, .string t351, .bool t352] 29 (0, 0)) (bk_ BK355)) (keep_size (w := w) (g := g) (row := none) (by repeat (first | (with_reducible first | exact HK.out | apply KeepBut.set_ | apply keep_drewN | apply keep_drew | apply keep_alloc | refine keep_far ?_ GW355.out _) | exact HK.out)))); replace HO_5 := Aside0.mk (Kd.R_elder' (kr_ HO_5) (Kd.R_base ho0) hb); replace HO364 := Aside0.mk (Kd.R_elder' (kr_ HO364) (Kd.R_base ho0) hb); replace BK355 := Aside0.mk (blk_below (bk_ BK355) hb); replace HK := Aside0.mk (KeepBut.trans (by repeat (first | (with_reducible first | exact HK.out | apply KeepBut.set_ | apply keep_drewN | apply keep_drew | apply keep_alloc | refine keep_far ?_ GW355.out _) | exact HK.out)) (KeepBut.of_below hb g none) (.inl rfl)); replace HB := Aside0.mk (below_step (by repeat (first | (with_reducible first | exact HB.out | apply below_alloc | apply pw_below_drewN | apply below_drew1 | refine below_set ?_ (IsS72.ge HI0.out) | refine below_set ?_ GE355.out) | exact HB.out)) hb); replace HI0 := Aside0.mk (IsS72.below (by repeat (first | (with_reducible first | exact HI0.out | apply IsS72.alloc | apply IsS72.drewN | apply IsS72.drew | apply IsS72.set_1 | apply IsS72.set_2 | refine IsS72.far ?_ NB0_355.out _) | exact HI0.out)) hb); clear hb; (try clear ho0)))
     go_roundg kj7
     case measure => have := HK1.out; have := HJ7.out; omega
     case rel => exact ⟨(t366), (wrap64 (x6_1 + 1)), (x1001_7), (x1002_7), (by first | rfl | (simp; done) | (simp [*]; done)), H', ⟨by have := HK1.out; have := HJ7.out; omega⟩, ⟨by (with_reducible repeat (first | apply Kd.R_alloc | apply Kd.R_drewN | apply Kd.R_drew)); exact Kd.R_mono HO368.out (fun _ hk => trivial)⟩, ⟨by repeat (first | (with_reducible first | exact HI0.out | apply IsS72.alloc | apply IsS72.drewN | apply IsS72.drew | apply IsS72.set_1 | apply IsS72.set_2 | refine IsS72.far ?_ NB0_355.out _) | exact HI0.out)⟩, ⟨by repeat (first | (with_reducible first | exact HK.out | apply KeepBut.set_ | apply keep_drewN | apply keep_drew | apply keep_alloc | refine keep_far ?_ GW355.out _) | exact HK.out)⟩, ⟨by repeat (first | (with_reducible first | exact HB.out | apply below_alloc | apply pw_below_drewN | apply below_drew1 | refine below_set ?_ (IsS72.ge HI0.out) | refine below_set ?_ GE355.out) | exact HB.out)⟩⟩}
     {
     rw [if_neg c22] at H
     have c22b0 : (t361.toList == ([] : List UInt8)) = false := beq_eq_false_iff_ne.mpr c22
     have c22b1 : (t361.toList != ([] : List UInt8)) = true := bne_iff_ne.mpr c22
     replace H := Option.bind_eq_some_iff.mp H
     obtain ⟨t370, A310, H⟩ := H
     have A31 := Aside0.mk A310
     clear A310
     replace H := Option.bind_eq_some_iff.mp H
     obtain ⟨⟨t371, t374⟩, A320, H⟩ := H
     have A32 := Aside0.mk A320
     clear A320
     replace H := Option.bind_eq_some_iff.mp H
     obtain ⟨⟨t375, t378⟩, A330, H⟩ := H
     have A33 := Aside0.mk A330
     clear A330
     replace H := Option.bind_eq_some_iff.mp H
     obtain ⟨⟨t379, t382⟩, A340, H⟩ := H
     have A34 := Aside0.mk A340
     clear A340
     have H' := Aside0.mk H
     clear H
     go_wp2_with (first | ((with_reducible refine gate_callee (f := 28) rfl ?_); refine gL_ (some 42) Tryd.func28 #[.string t356] ?_; (with_reducible refine (spec_l10Up.calls kj7 t356 t361 _ A21.out).mono ?_); rintro e w' ⟨rfl, ⟨nd, rfl⟩⟩; refine ⟨_, rfl, ?_⟩) | ((with_reducible refine gate_callee (f := 28) rfl ?_); refine gL_ (some 47) Tryd.func28 #[.string t356] ?_; (with_reducible refine (spec_l10Up.calls kj7 t356 t370 _ A31.out).mono ?_); rintro e w' ⟨rfl, ⟨nd, rfl⟩⟩; refine ⟨_, rfl, ?_⟩; obtain ⟨Ao35, co35, eo35⟩ := Kd.R_slice HO_5.out; subst eo35) | ((with_reducible refine gate_callee (f := 41) rfl ?_); refine gL_ (some 49) Tryd.func41 #[.slice Ao35 x5_1.length co35, .agg #[.string t370, .int .i64 1, .string (⟨#[]⟩ : ByteArray), .bool false]] ?_; (with_reducible refine (spec_l10Put.calls kj7 _ _ x5_1 t370 1 (⟨#[]⟩ : ByteArray) false t371 t374 _ ?side1 ?side2 A32.out).mono ?_); (case side1 => exact cR_ HO_5); (case side2 => exact (Kd.R_reads' HO_5.out).2.1); rintro e w36 ⟨v372, rfl, ho0, hb⟩; refine ⟨_, rfl, ?_⟩; have HO373 := Aside0.mk (Kd.R_lower (Kd.R_newB (Kd.R_new' ho0 (Kd.R_lt (kr_ HO_5))) (g := gb355) (o := .cells #[.string t349, .int .i64 t350, .string t351, .bool t352] 29 (0, 0)) (bk_ BK355)) (keep_size (w := w) (g := g) (row := none) (by repeat (first | (with_reducible first | exact HK.out | apply KeepBut.set_ | apply keep_drewN | apply keep_drew | apply keep_alloc | refine keep_far ?_ GW355.out _) | exact HK.out)))); replace HO_5 := Aside0.mk (Kd.R_elder' (kr_ HO_5) (Kd.R_base ho0) hb); replace BK355 := Aside0.mk (blk_below (bk_ BK355) hb); replace HK := Aside0.mk (KeepBut.trans (by repeat (first | (with_reducible first | exact HK.out | apply KeepBut.set_ | apply keep_drewN | apply keep_drew | apply keep_alloc | refine keep_far ?_ GW355.out _) | exact HK.out)) (KeepBut.of_below hb g none) (.inl rfl)); replace HB := Aside0.mk (below_step (by repeat (first | (with_reducible first | exact HB.out | apply below_alloc | apply pw_below_drewN | apply below_drew1 | refine below_set ?_ (IsS72.ge HI0.out) | refine below_set ?_ GE355.out) | exact HB.out)) hb); replace HI0 := Aside0.mk (IsS72.below (by repeat (first | (with_reducible first | exact HI0.out | apply IsS72.alloc | apply IsS72.drewN | apply IsS72.drew | apply IsS72.set_1 | apply IsS72.set_2 | refine IsS72.far ?_ NB0_355.out _) | exact HI0.out)) hb); clear hb; (try clear ho0); obtain ⟨Ao37, co37, eo37⟩ := Kd.R_slice HO373.out; subst eo37) | ((with_reducible refine gate_callee (f := 41) rfl ?_); refine gL_ (some 57) Tryd.func41 #[.slice Ao37 t371.length co37, .agg #[.string t356, .int .i64 1, .string (⟨#[]⟩ : ByteArray), .bool false]] ?_; (with_reducible refine (spec_l10Put.calls kj7 _ _ t371 t356 1 (⟨#[]⟩ : ByteArray) false t375 t378 _ ?side1 ?side2 A33.out).mono ?_); (case side1 => exact cR_ HO373); (case side2 => exact (Kd.R_reads' HO373.out).2.1); rintro e w38 ⟨v376, rfl, ho0, hb⟩; refine ⟨_, rfl, ?_⟩; have HO377 := Aside0.mk (Kd.R_lower (Kd.R_newB (Kd.R_new' (Kd.R_new' ho0 (Kd.R_lt (kr_ HO_5))) (Kd.R_lt (kr_ HO373))) (g := gb355) (o := .cells #[.string t349, .int .i64 t350, .string t351, .bool t352] 29 (0, 0)) (bk_ BK355)) (keep_size (w := w) (g := g) (row := none) (by repeat (first | (with_reducible first | exact HK.out | apply KeepBut.set_ | apply keep_drewN | apply keep_drew | apply keep_alloc | refine keep_far ?_ GW355.out _) | exact HK.out)))); replace HO_5 := Aside0.mk (Kd.R_elder' (kr_ HO_5) (Kd.R_base ho0) hb); replace HO373 := Aside0.mk (Kd.R_elder' (kr_ HO373) (Kd.R_base ho0) hb); replace BK355 := Aside0.mk (blk_below (bk_ BK355) hb); replace HK := Aside0.mk (KeepBut.trans (by repeat (first | (with_reducible first | exact HK.out | apply KeepBut.set_ | apply keep_drewN | apply keep_drew | apply keep_alloc | refine keep_far ?_ GW355.out _) | exact HK.out)) (KeepBut.of_below hb g none) (.inl rfl)); replace HB := Aside0.mk (below_step (by repeat (first | (with_reducible first | exact HB.out | apply below_alloc | apply pw_below_drewN | apply below_drew1 | refine below_set ?_ (IsS72.ge HI0.out) | refine below_set ?_ GE355.out) | exact HB.out)) hb); replace HI0 := Aside0.mk (IsS72.below (by repeat (first | (with_reducible first | exact HI0.out | apply IsS72.alloc | apply IsS72.drewN | apply IsS72.drew | apply IsS72.set_1 | apply IsS72.set_2 | refine IsS72.far ?_ NB0_355.out _) | exact HI0.out)) hb); clear hb; (try clear ho0); have hnb39 := NB355_0.out; have hnc39 := NB0_355.out; obtain ⟨hcz40_0, hcz40_1, hcz40_2, hcz40_3, hfz40_0, hfz40_1, hfz40_2, hfz40_3⟩ := zc4_ BK355; obtain ⟨Ao41, co41, eo41⟩ := Kd.R_slice HO377.out; subst eo41) | ((with_reducible refine gate_callee (f := 41) rfl ?_); refine gL_ (some 64) Tryd.func41 #[.slice Ao41 t375.length co41, .agg #[.string t349, .int .i64 t350, .string t351, .bool t352]] ?_; (with_reducible refine (spec_l10Put.calls kj7 _ _ t375 t349 t350 t351 t352 t379 t382 _ ?side1 ?side2 A34.out).mono ?_); (case side1 => exact cR_ HO377); (case side2 => exact (Kd.R_reads' HO377.out).2.1); rintro e w42 ⟨v380, rfl, ho0, hb⟩; refine ⟨_, rfl, ?_⟩; have HO381 := Aside0.mk (Kd.R_lower (Kd.R_newB (Kd.R_new' (Kd.R_new' (Kd.R_new' ho0 (Kd.R_lt (kr_ HO_5))) (Kd.R_lt (kr_ HO373))) (Kd.R_lt (kr_ HO377))) (g := gb355) (o := .cells #[.string t349, .int .i64 t350, .string t351, .bool t352] 29 (0, 0)) (bk_ BK355)) (keep_size (w := w) (g := g) (row := none) (by repeat (first | (with_reducible first | exact HK.out | apply KeepBut.set_ | apply keep_drewN | apply keep_drew | apply keep_alloc | refine keep_far ?_ GW355.out _) | exact HK.out)))); replace HO_5 := Aside0.mk (Kd.R_elder' (kr_ HO_5) (Kd.R_base ho0) hb); replace HO373 := Aside0.mk (Kd.R_elder' (kr_ HO373) (Kd.R_base ho0) hb); replace HO377 := Aside0.mk (Kd.R_elder' (kr_ HO377) (Kd.R_base ho0) hb); replace BK355 := Aside0.mk (blk_below (bk_ BK355) hb); replace HK := Aside0.mk (KeepBut.trans (by repeat (first | (with_reducible first | exact HK.out | apply KeepBut.set_ | apply keep_drewN | apply keep_drew | apply keep_alloc | refine keep_far ?_ GW355.out _) | exact HK.out)) (KeepBut.of_below hb g none) (.inl rfl)); replace HB := Aside0.mk (below_step (by repeat (first | (with_reducible first | exact HB.out | apply below_alloc | apply pw_below_drewN | apply below_drew1 | refine below_set ?_ (IsS72.ge HI0.out) | refine below_set ?_ GE355.out) | exact HB.out)) hb); replace HI0 := Aside0.mk (IsS72.below (by repeat (first | (with_reducible first | exact HI0.out | apply IsS72.alloc | apply IsS72.drewN | apply IsS72.drew | apply IsS72.set_1 | apply IsS72.set_2 | refine IsS72.far ?_ NB0_355.out _) | exact HI0.out)) hb); clear hb; (try clear ho0)))
     go_roundg kj7
     case measure => have := HK1.out; have := HJ7.out; omega
     case rel => exact ⟨(t379), (wrap64 (x6_1 + 1)), (x1001_7), (x1002_7), (by first | rfl | (simp; done) | (simp [*]; done)), H', ⟨by have := HK1.out; have := HJ7.out; omega⟩, ⟨by (with_reducible repeat (first | apply Kd.R_alloc | apply Kd.R_drewN | apply Kd.R_drew)); exact Kd.R_mono HO381.out (fun _ hk => trivial)⟩, ⟨by repeat (first | (with_reducible first | exact HI0.out | apply IsS72.alloc | apply IsS72.drewN | apply IsS72.drew | apply IsS72.set_1 | apply IsS72.set_2 | refine IsS72.far ?_ NB0_355.out _) | exact HI0.out)⟩, ⟨by repeat (first | (with_reducible first | exact HK.out | apply KeepBut.set_ | apply keep_drewN | apply keep_drew | apply keep_alloc | refine keep_far ?_ GW355.out _) | exact HK.out)⟩, ⟨by repeat (first | (with_reducible first | exact HB.out | apply below_alloc | apply pw_below_drewN | apply below_drew1 | refine below_set ?_ (IsS72.ge HI0.out) | refine below_set ?_ GE355.out) | exact HB.out)⟩⟩}}
     {
     replace c20 := Bool.eq_false_iff.mpr c20
     subst c20
     rw [if_neg (show ¬ (false = true) by decide)] at H
     replace H := Option.bind_eq_some_iff.mp H
     obtain ⟨⟨t383, t386⟩, A430, H⟩ := H
     have A43 := Aside0.mk A430
     clear A430
     have H' := Aside0.mk H
     clear H
     have hnb44 := NB355_0.out
     have hnc44 := NB0_355.out
     obtain ⟨hcz45_0, hcz45_1, hcz45_2, hcz45_3, hfz45_0, hfz45_1, hfz45_2, hfz45_3⟩ := zc4_ BK355
     obtain ⟨Ao46, co46, eo46⟩ := Kd.R_slice HO_5.out
     subst eo46
     go_wp2_with (first | ((with_reducible refine gate_callee (f := 41) rfl ?_); refine gL_ (some 64) Tryd.func41 #[.slice Ao46 x5_1.length co46, .agg #[.string t349, .int .i64 t350, .string t351, .bool t352]] ?_; (with_reducible refine (spec_l10Put.calls kj7 _ _ x5_1 t349 t350 t351 t352 t383 t386 _ ?side1 ?side2 A43.out).mono ?_); (case side1 => exact cR_ HO_5); (case side2 => exact (Kd.R_reads' HO_5.out).2.1); rintro e w47 ⟨v384, rfl, ho0, hb⟩; refine ⟨_, rfl, ?_⟩; have HO385 := Aside0.mk (Kd.R_lower (Kd.R_newB (Kd.R_new' ho0 (Kd.R_lt (kr_ HO_5))) (g := gb355) (o := .cells #[.string t349, .int .i64 t350, .string t351, .bool t352] 29 (0, 0)) (bk_ BK355)) (keep_size (w := w) (g := g) (row := none) (by repeat (first | (with_reducible first | exact HK.out | apply KeepBut.set_ | apply keep_drewN | apply keep_drew | apply keep_alloc | refine keep_far ?_ GW355.out _) | exact HK.out)))); replace HO_5 := Aside0.mk (Kd.R_elder' (kr_ HO_5) (Kd.R_base ho0) hb); replace BK355 := Aside0.mk (blk_below (bk_ BK355) hb); replace HK := Aside0.mk (KeepBut.trans (by repeat (first | (with_reducible first | exact HK.out | apply KeepBut.set_ | apply keep_drewN | apply keep_drew | apply keep_alloc | refine keep_far ?_ GW355.out _) | exact HK.out)) (KeepBut.of_below hb g none) (.inl rfl)); replace HB := Aside0.mk (below_step (by repeat (first | (with_reducible first | exact HB.out | apply below_alloc | apply pw_below_drewN | apply below_drew1 | refine below_set ?_ (IsS72.ge HI0.out) | refine below_set ?_ GE355.out) | exact HB.out)) hb); replace HI0 := Aside0.mk (IsS72.below (by repeat (first | (with_reducible first | exact HI0.out | apply IsS72.alloc | apply IsS72.drewN | apply IsS72.drew | apply IsS72.set_1 | apply IsS72.set_2 | refine IsS72.far ?_ NB0_355.out _) | exact HI0.out)) hb); clear hb; (try clear ho0)))
     go_roundg kj7
     case measure => have := HK1.out; have := HJ7.out; omega
     case rel => exact ⟨(t383), (wrap64 (x6_1 + 1)), (x1001_7), (x1002_7), (by first | rfl | (simp; done) | (simp [*]; done)), H', ⟨by have := HK1.out; have := HJ7.out; omega⟩, ⟨by (with_reducible repeat (first | apply Kd.R_alloc | apply Kd.R_drewN | apply Kd.R_drew)); exact Kd.R_mono HO385.out (fun _ hk => trivial)⟩, ⟨by repeat (first | (with_reducible first | exact HI0.out | apply IsS72.alloc | apply IsS72.drewN | apply IsS72.drew | apply IsS72.set_1 | apply IsS72.set_2 | refine IsS72.far ?_ NB0_355.out _) | exact HI0.out)⟩, ⟨by repeat (first | (with_reducible first | exact HK.out | apply KeepBut.set_ | apply keep_drewN | apply keep_drew | apply keep_alloc | refine keep_far ?_ GW355.out _) | exact HK.out)⟩, ⟨by repeat (first | (with_reducible first | exact HB.out | apply below_alloc | apply pw_below_drewN | apply below_drew1 | refine below_set ?_ (IsS72.ge HI0.out) | refine below_set ?_ GE355.out) | exact HB.out)⟩⟩}}
   {
   rw [if_neg c5] at H
   have c5b0 := decide_eq_false c5
   clear c5
   simp only [Option.some.injEq, Prod.mk.injEq] at H
   obtain ⟨rfl, rfl, rfl⟩ := H
   go_wp2
   go_ret
   exact ⟨_, eR_, kr_ HO_5, is72_ HI0, bwg_ HB (IsS72.ge HI0.out), kb_ HK⟩}
def spec_l2Int.l0 : Nat → Int → ByteArray → Option (ByteArray)
 | 0, _, _ => none
 | k + 1, x0, x3 => if x0 > 9 then ((some (([(wrap64 (48 + (Int.tmod x0 10))) % 256] : List Int) : List Int)).bind fun y387 => (if (strOfNums y387).size + x3.size ≤ 9223372036854775807 then (spec_l2Int.l0 k (wrap64 (Int.tdiv x0 10)) ((strOfNums y387) ++ x3)) else (none))) else ((some (([(wrap64 (48 + x0)) % 256] : List Int) : List Int)).bind fun y390 => (if (strOfNums y390).size + x3.size ≤ 9223372036854775807 then (some ((strOfNums y390) ++ x3)) else (none)))
def spec_l2Int.f (k : Nat) (a0 : Int) : Option (ByteArray) := spec_l2Int.l0 k a0 (⟨#[]⟩ : ByteArray)
theorem spec_l2Int.calls (k : Nat) (a0 : Int) (r : ByteArray) (w : World) (h : spec_l2Int.f k a0 = some r) :
 Calls Tryd.prog 48 #[.int .i64 a0] w fun e w' => e = .returned (.string r) ∧ Below w.heap.size w w' := by
 have HB := Aside0.mk (Below.refl w.heap.size w)
 have H : (spec_l2Int.l0 k a0 (⟨#[]⟩ : ByteArray)) = some r := h
 clear h
 have H' := Aside0.mk H
 clear H
 go_enter Tryd.func48, Tryd.ntmps48
 go_wp2
 go_loopg [0, 3] k (fun kq v0 v3 w' => ∃ (x0_1 : Int) (x3_1 : ByteArray), v0 = .int .i64 x0_1 ∧ v3 = .string x3_1 ∧ Aside0 (spec_l2Int.l0 kq x0_1 x3_1 = some r) ∧ Aside0 (kq ≤ k) ∧ Aside0 (Below w.heap.size w w'))
 case atStart => exact ⟨(a0), ((⟨#[]⟩ : ByteArray)), (by first | rfl | (simp; done) | (simp [*]; done)), (by first | rfl | (simp; done) | (simp [*]; done)), H', ⟨Nat.le_refl _⟩, ⟨bw_ HB⟩⟩
 case round =>
  clear H'
  obtain ⟨x0_1, x3_1, rfl, rfl, HA, HK1, HB⟩ := hrel
  cases gk with
  | zero => exact absurd HA.out (by simp [spec_l2Int.l0])
  | succ k1 =>
   have H := HA.out
   clear HA
   simp only [spec_l2Int.l0] at H
   by_cases c2 : x0_1 > 9
   {
   rw [if_pos c2] at H
   have c2b0 : decide (9 < x0_1) = true := decide_eq_true c2
   clear c2
   obtain ⟨y387, hy387⟩ : ∃ y_ : List Int, y_ = (([(wrap64 (48 + (Int.tmod x0_1 10))) % 256] : List Int)) := ⟨_, rfl⟩
   replace H : (if (strOfNums y387).size + x3_1.size ≤ 9223372036854775807 then (spec_l2Int.l0 k1 (wrap64 (Int.tdiv x0_1 10)) ((strOfNums y387) ++ x3_1)) else (none)) = some r := rH_ hy387 H
   have Ny387 := Aside0.mk hy387
   clear hy387
   by_cases c3 : (strOfNums y387).size + x3_1.size ≤ 9223372036854775807
   {
   rw [if_pos c3] at H
   have c3b0 := eq_true c3
   have c3b1 := decide_eq_true c3
   try have c3b2 : (9223372036854775807 < (strOfNums y387).size + x3_1.size) = False := eq_false (Nat.not_lt.2 c3)
   have H' := Aside0.mk H
   clear H
   go_wp2_with (first | ((with_reducible refine gate_dst (N := 10) rfl ?_); refine Kd.R_lit (Kd.int .u8) _ 5 ?hg (N := 10) ?hd (xs := ([(wrap64 (48 + (Int.tmod x0_1 10))) % 256] : List Int)) (inner := [.int .u8 ((wrap64 (48 + (Int.tmod x0_1 10))) % 256)]) (ok := fun _ => True) (okp := fun _ => True) ?hr ?hp (fun _ hk => hk) trivial (Below.refl _ _) (Nat.le_refl _) (by simp) ?_; (case hd => rfl); (case hg => rfl); (case hr => first | (go_simp; done) | (go_simp; rfl)); (case hp => exact (Reps.one (show Kd.M (Kd.int .u8) _ _ _ ((wrap64 (48 + (Int.tmod x0_1 10))) % 256) [.int .u8 ((wrap64 (48 + (Int.tmod x0_1 10))) % 256)] from rfl) (Reps.none _ _))); intro v388 w4 ho5 hb hg_ hnew_; clear hg_ hnew_; (first | rw [← Ny387.out] at ho5 | (simp only [Int.reduceToNat] at ho5; rw [← Ny387.out] at ho5)); have HO389 := Aside0.mk (Kd.R_lower ho5 (below_size (bw_ HB))); replace HB := Aside0.mk (below_step (bw_ HB) hb); clear hb ho5; have hcv6 := own_string (P := Tryd.prog) Tryd.underlying22 Tryd.underlying5 Tryd.underlying9 (Kd.own_of_R HO389.out)))
   go_roundg k1
   case measure => have := HK1.out; omega
   case rel => exact ⟨(wrap64 (Int.tdiv x0_1 10)), ((strOfNums y387) ++ x3_1), (by first | rfl | (simp; done) | (simp [*]; done)), (by first | rfl | (simp; done) | (simp [*]; done)), H', ⟨by have := HK1.out; omega⟩, ⟨bw_ HB⟩⟩}
   {
   rw [if_neg c3] at H
   exact absurd H (by simp)}}
   {
   rw [if_neg c2] at H
   have c2b0 : decide (9 < x0_1) = false := decide_eq_false c2
   clear c2
   obtain ⟨y390, hy390⟩ : ∃ y_ : List Int, y_ = (([(wrap64 (48 + x0_1)) % 256] : List Int)) := ⟨_, rfl⟩
   replace H : (if (strOfNums y390).size + x3_1.size ≤ 9223372036854775807 then (some ((strOfNums y390) ++ x3_1)) else (none)) = some r := rH_ hy390 H
   have Ny390 := Aside0.mk hy390
   clear hy390
   by_cases c7 : (strOfNums y390).size + x3_1.size ≤ 9223372036854775807
   {
   rw [if_pos c7] at H
   have c7b0 := eq_true c7
   have c7b1 := decide_eq_true c7
   try have c7b2 : (9223372036854775807 < (strOfNums y390).size + x3_1.size) = False := eq_false (Nat.not_lt.2 c7)
   obtain rfl := Option.some.inj H
   go_wp2_with (first | ((with_reducible refine gate_dst (N := 19) rfl ?_); refine Kd.R_lit (Kd.int .u8) _ 5 ?hg (N := 19) ?hd (xs := ([(wrap64 (48 + x0_1)) % 256] : List Int)) (inner := [.int .u8 ((wrap64 (48 + x0_1)) % 256)]) (ok := fun _ => True) (okp := fun _ => True) ?hr ?hp (fun _ hk => hk) trivial (Below.refl _ _) (Nat.le_refl _) (by simp) ?_; (case hd => rfl); (case hg => rfl); (case hr => first | (go_simp; done) | (go_simp; rfl)); (case hp => exact (Reps.one (show Kd.M (Kd.int .u8) _ _ _ ((wrap64 (48 + x0_1)) % 256) [.int .u8 ((wrap64 (48 + x0_1)) % 256)] from rfl) (Reps.none _ _))); intro v391 w8 ho9 hb hg_ hnew_; clear hg_ hnew_; (first | rw [← Ny390.out] at ho9 | (simp only [Int.reduceToNat] at ho9; rw [← Ny390.out] at ho9)); have HO392 := Aside0.mk (Kd.R_lower ho9 (below_size (bw_ HB))); replace HB := Aside0.mk (below_step (bw_ HB) hb); clear hb ho9; have hcv10 := own_string (P := Tryd.prog) Tryd.underlying22 Tryd.underlying5 Tryd.underlying9 (Kd.own_of_R HO392.out)))
   go_ret
   exact ⟨eR_, bw_ HB⟩}
   {
   rw [if_neg c7] at H
   exact absurd H (by simp)
}}
mutual
def spec_l10DrawAny.j0 : Nat → List (S29) → Bool → List Int → Int → Int → Option ((List (S29)) × Int × Int)
 | 0, _, _, _, _, _ => none
 | k + 1, x3, x15, x1000, x1001, x1002 => if x15 = true then ((spec_l1Below.f x1000 x1001 x1002 (x3.length : Int)).bind fun bt404 => ((spec_l10DrawEntry.f k x1000 bt404.2.1 bt404.2.2).bind fun bt407 => (if 0 ≤ bt404.1 then (if bt404.1 < (x3.length : Int) then (spec_l10DrawAny.j1 k (x3.set (bt404.1 : Int).toNat (⟨bt407.1, bt407.2.1, bt407.2.2.1, bt407.2.2.2.1⟩ : S29)) x1000 bt407.2.2.2.2.1 bt407.2.2.2.2.2) else (none)) else (none)))) else (spec_l10DrawAny.j1 k x3 x1000 x1001 x1002)
def spec_l10DrawAny.j1 : Nat → List (S29) → List Int → Int → Int → Option ((List (S29)) × Int × Int)
 | 0, _, _, _, _ => none
 | k + 1, x3, x1000, x1001, x1002 => (spec_l1Once.f x1000 x1001 x1002 100).bind fun bt414 => (if bt414.1 = true then ((spec_l1Below.f x1000 bt414.2.1 bt414.2.2 3).bind fun bt420 => (spec_l10DrawAny.l0 k (([] : List (S29))) (wrap64 ((wrap64 (bt420.1 + 500)) - 1)) x1000 bt420.2.1 bt420.2.2)) else (some (x3, bt414.2.1, bt414.2.2)))
def spec_l10DrawAny.l0 : Nat → List (S29) → Int → List Int → Int → Int → Option ((List (S29)) × Int × Int)
 | 0, _, _, _, _, _ => none
 | k + 1, x3, x4, x1000, x1001, x1002 => if x4 > 0 then ((spec_l2Int.f k (wrap64 (1000 + x4))).bind fun t423 => (if 1 + t423.size ≤ 9223372036854775807 then ((some (([(⟨(⟨#[112]⟩ : ByteArray) ++ t423, 1, (⟨#[]⟩ : ByteArray), false⟩ : S29)] : List (S29)) : List (S29))).bind fun y424 => (if y424.length + x3.length < 2932031007402 then (spec_l10DrawAny.l0 k (y424 ++ x3) (wrap64 (x4 - 1)) x1000 x1001 x1002) else (none))) else (none))) else (some (x3, x1001, x1002))
end
def spec_l10DrawAny.f (k : Nat) (s0_0 : List Int) (s0_1 : Int) (s0_2 : Int) : Option ((List (S29)) × Int × Int) := (spec_l1Below.f s0_0 s0_1 s0_2 9).bind fun bt393 => ((spec_l10DrawTree.f k s0_0 bt393.2.1 bt393.2.2 bt393.1).bind fun bt396 => ((spec_l1Once.f s0_0 bt396.2.1 bt396.2.2 12).bind fun bt401 => (if bt401.1 = true then (spec_l10DrawAny.j0 k bt396.1 (decide ((bt396.1.length : Int) > 0)) s0_0 bt401.2.1 bt401.2.2) else (spec_l10DrawAny.j0 k bt396.1 false s0_0 bt401.2.1 bt401.2.2))))
theorem spec_l10DrawAny.calls (k : Nat) (g : Nat) (s0_0 : List Int) (s0_1 : Int) (s0_2 : Int) (r1 : List (S29)) (r2 : Int) (r3 : Int) (w0 w : World) (hI : IsS72 w0 w g s0_0 s0_1 s0_2) (hB : Below w0.heap.size w0 w) (h : spec_l10DrawAny.f k s0_0 s0_1 s0_2 = some (r1, r2, r3)) :
 Calls Tryd.prog 25 #[.pointer (some ⟨g, 0, none⟩)] w fun e w' => ∃ v0_ : Value, e = .returned (v0_) ∧ Kd.R k29 29 w' w.heap.size (fun _ => True) v0_ r1 ∧ IsS72 w0 w' g s0_0 r2 r3 ∧ Below w0.heap.size w0 w' ∧ KeepBut w w' g none := by
 have hu29 := Tryd.underlying29
 have HI0 := Aside0.mk hI
 have HK := Aside0.mk (KeepBut.refl w g none)
 have HL := Aside0.mk hB.size
 clear hI
 have HW0 := Aside0.mk hB.size
 have HB := Aside0.mk hB
 clear hB
 have H : ((spec_l1Below.f s0_0 s0_1 s0_2 9).bind fun bt393 => ((spec_l10DrawTree.f k s0_0 bt393.2.1 bt393.2.2 bt393.1).bind fun bt396 => ((spec_l1Once.f s0_0 bt396.2.1 bt396.2.2 12).bind fun bt401 => (if bt401.1 = true then (spec_l10DrawAny.j0 k bt396.1 (decide ((bt396.1.length : Int) > 0)) s0_0 bt401.2.1 bt401.2.2) else (spec_l10DrawAny.j0 k bt396.1 false s0_0 bt401.2.1 bt401.2.2))))) = some (r1, r2, r3) := h
 clear h
 replace H := Option.bind_eq_some_iff.mp H
 obtain ⟨⟨t393, t394, t395⟩, A20, H⟩ := H
 have A2 := Aside0.mk A20
 clear A20
 replace H := Option.bind_eq_some_iff.mp H
 obtain ⟨⟨t396, t399, t400⟩, A30, H⟩ := H
 have A3 := Aside0.mk A30
 clear A30
 have HC4 := Aside0.mk H
 clear H
 go_enter Tryd.func25, Tryd.ntmps25
 go_upto_region 2 with (first | ((with_reducible refine gate_callee (f := 32) rfl ?_); refine gL_ (some 7) Tryd.func32 #[.pointer (some ⟨g, 0, none⟩), .int .i64 9] ?_; (with_reducible refine (spec_l1Below.calls g s0_0 s0_1 s0_2 9 t393 t394 t395 w0 _ ?side1 ?side2 A2.out).mono ?_); (case side1 => exact is72_ HI0); (case side2 => repeat (first | (with_reducible first | exact HB.out | apply below_alloc | apply pw_below_drewN | apply below_drew1 | refine below_set ?_ (IsS72.ge HI0.out)) | exact HB.out)); rintro e w5 ⟨rfl, hi, hb, hk⟩; refine ⟨_, rfl, ?_⟩; replace HK := Aside0.mk (KeepBut.trans (kb_ HK) hk (.inl rfl)); replace HB := Aside0.mk (hb); replace HI0 := Aside0.mk (hi); clear hb hk hi) | ((with_reducible refine gate_callee (f := 31) rfl ?_); refine gL_ (some 8) Tryd.func31 #[.pointer (some ⟨g, 0, none⟩), .int .i64 t393] ?_; (with_reducible refine (spec_l10DrawTree.calls k g s0_0 t394 t395 t393 t396 t399 t400 w0 _ ?side1 ?side2 A3.out).mono ?_); (case side1 => exact is72_ HI0); (case side2 => repeat (first | (with_reducible first | exact HB.out | apply below_alloc | apply pw_below_drewN | apply below_drew1 | refine below_set ?_ (IsS72.ge HI0.out)) | exact HB.out)); rintro e w6 ⟨v397, rfl, ho0, hi, hb, hk⟩; refine ⟨_, rfl, ?_⟩; have HO398 := Aside0.mk (Kd.R_lower ho0 (keep_size (w := w) (g := g) (row := none) (kb_ HK))); replace HK := Aside0.mk (KeepBut.trans (kb_ HK) hk (.inl rfl)); replace HB := Aside0.mk (hb); replace HI0 := Aside0.mk (hi); clear hb hk hi; (try clear ho0)))
 (try simp only [Act.put, List.setIfInBounds_toArray, List.set_cons_zero, List.set_cons_succ])
 go_cut [15] (fun v15 wc => ∃ (kq : Nat) (x15_3 : Bool) (x1001_3 : Int) (x1002_3 : Int), v15 = .bool x15_3 ∧ Aside0 (spec_l10DrawAny.j0 kq t396 x15_3 s0_0 x1001_3 x1002_3 = some (r1, r2, r3)) ∧ Aside0 (kq ≤ k) ∧ Aside0 (Kd.R k29 29 wc w.heap.size (fun _ => True) v397 t396) ∧ Aside0 (IsS72 w0 wc g s0_0 x1001_3 x1002_3) ∧ Aside0 (KeepBut w wc g none) ∧ Aside0 (Below w0.heap.size w0 wc))
 case first =>
  have H := HC4.out
  clear HC4
  replace H := Option.bind_eq_some_iff.mp H
  obtain ⟨⟨t401, t402, t403⟩, A70, H⟩ := H
  have A7 := Aside0.mk A70
  clear A70
  by_cases c8 : t401 = true
  {
  subst c8
  rw [if_pos rfl] at H
  have H' := Aside0.mk H
  clear H
  go_wp2_with (first | ((with_reducible refine gate_callee (f := 47) rfl ?_); refine gL_ (some 10) Tryd.func47 #[.pointer (some ⟨g, 0, none⟩), .int .i64 12] ?_; (with_reducible refine (spec_l1Once.calls g s0_0 t399 t400 12 true t402 t403 w0 _ ?side1 ?side2 A7.out).mono ?_); (case side1 => exact is72_ HI0); (case side2 => repeat (first | (with_reducible first | exact HB.out | apply below_alloc | apply pw_below_drewN | apply below_drew1 | refine below_set ?_ (IsS72.ge HI0.out)) | exact HB.out)); rintro e w9 ⟨rfl, hi, hb, hk⟩; refine ⟨_, rfl, ?_⟩; replace HO398 := Aside0.mk (Kd.R_mono (Kd.R_keep (IsS72.apart (show IsS72 w0 _ g s0_0 t399 t400 from is72_ HI0) (kr_ HO398) (by decide)) hk (fun _ h => h.2)) (fun _ h => h.1)); replace HK := Aside0.mk (KeepBut.trans (kb_ HK) hk (.inl rfl)); replace HB := Aside0.mk (hb); replace HI0 := Aside0.mk (hi); clear hb hk hi; obtain ⟨Ao10, co10, eo10⟩ := Kd.R_slice HO398.out; subst eo10))
  go_meet
  case rel => exact ⟨_, (decide ((t396.length : Int) > 0)), (t402), (t403), (by first | rfl | (simp; done) | (simp [*]; done)), H', ⟨by first | omega | exact Nat.le_refl _⟩, ⟨kr_ HO398⟩, ⟨is72_ HI0⟩, ⟨kb_ HK⟩, ⟨bwg_ HB (IsS72.ge HI0.out)⟩⟩}
  {
  replace c8 := Bool.eq_false_iff.mpr c8
  subst c8
  rw [if_neg (show ¬ (false = true) by decide)] at H
  have H' := Aside0.mk H
  clear H
  go_wp2_with (first | ((with_reducible refine gate_callee (f := 47) rfl ?_); refine gL_ (some 10) Tryd.func47 #[.pointer (some ⟨g, 0, none⟩), .int .i64 12] ?_; (with_reducible refine (spec_l1Once.calls g s0_0 t399 t400 12 false t402 t403 w0 _ ?side1 ?side2 A7.out).mono ?_); (case side1 => exact is72_ HI0); (case side2 => repeat (first | (with_reducible first | exact HB.out | apply below_alloc | apply pw_below_drewN | apply below_drew1 | refine below_set ?_ (IsS72.ge HI0.out)) | exact HB.out)); rintro e w11 ⟨rfl, hi, hb, hk⟩; refine ⟨_, rfl, ?_⟩; replace HO398 := Aside0.mk (Kd.R_mono (Kd.R_keep (IsS72.apart (show IsS72 w0 _ g s0_0 t399 t400 from is72_ HI0) (kr_ HO398) (by decide)) hk (fun _ h => h.2)) (fun _ h => h.1)); replace HK := Aside0.mk (KeepBut.trans (kb_ HK) hk (.inl rfl)); replace HB := Aside0.mk (hb); replace HI0 := Aside0.mk (hi); clear hb hk hi))
  go_meet
  case rel => exact ⟨_, (false), (t402), (t403), (by first | rfl | (simp; done) | (simp [*]; done)), H', ⟨by first | omega | exact Nat.le_refl _⟩, ⟨kr_ HO398⟩, ⟨is72_ HI0⟩, ⟨kb_ HK⟩, ⟨bwg_ HB (IsS72.ge HI0.out)⟩⟩}
 case rest =>
  clear HC4
  try clear c2
  try clear p2
  try clear c3
  try clear c4
  try clear c8
  obtain ⟨kq, x15_3, x1001_3, x1002_3, rfl, HA, HJ3, HO_3, HI0, HK, HB⟩ := hcut
  cases kq with
  | zero => exact absurd HA.out (by simp [spec_l10DrawAny.j0])
  | succ kj3 =>
   have H := HA.out
   clear HA
   simp only [spec_l10DrawAny.j0] at H
   have HC12 := Aside0.mk H
   clear H
   go_upto_if 15 with (fail)
   go_cut [] (fun wc => ∃ (kq : Nat) (x3_11 : List (S29)) (x1001_11 : Int) (x1002_11 : Int), Aside0 (spec_l10DrawAny.j1 kq x3_11 s0_0 x1001_11 x1002_11 = some (r1, r2, r3)) ∧ Aside0 (kq ≤ kj3) ∧ Aside0 (Kd.R k29 29 wc w.heap.size (fun _ => True) v397 x3_11) ∧ Aside0 (IsS72 w0 wc g s0_0 x1001_11 x1002_11) ∧ Aside0 (KeepBut w wc g none) ∧ Aside0 (Below w0.heap.size w0 wc))
   case first =>
    have H := HC12.out
    clear HC12
    by_cases c13 : x15_3 = true
    {
    subst c13
    rw [if_pos rfl] at H
    replace H := Option.bind_eq_some_iff.mp H
    obtain ⟨⟨t404, t405, t406⟩, A140, H⟩ := H
    have A14 := Aside0.mk A140
    clear A140
    replace H := Option.bind_eq_some_iff.mp H
    obtain ⟨⟨t407, t408, t409, t410, t411, t412⟩, A150, H⟩ := H
    have A15 := Aside0.mk A150
    clear A150
    by_cases c16 : 0 ≤ t404
    {
    rw [if_pos c16] at H
    have c16b0 := decide_eq_true c16
    clear c16
    (first | rw [c16b0] | (simp only [i64_w, i32_w]; rw [c16b0]) | skip)
    by_cases c17 : t404 < (t396.length : Int)
    {
    rw [if_pos c17] at H
    have c17b0 := decide_eq_true c17
    clear c17
    obtain ⟨y413, hy413⟩ : ∃ y_ : List (S29), y_ = (t396.set (t404 : Int).toNat (⟨t407, t408, t409, t410⟩ : S29)) := ⟨_, rfl⟩
    replace H : (spec_l10DrawAny.j1 kj3 y413 s0_0 t411 t412) = some (r1, r2, r3) := rH_ hy413 H
    have Ny413 := Aside0.mk hy413
    clear hy413
    have H' := Aside0.mk H
    clear H
    obtain ⟨Ao19, co19, eo19⟩ := Kd.R_slice HO_3.out
    subst eo19
    go_wp2_with (first | ((with_reducible refine gate_callee (f := 32) rfl ?_); refine gL_ (some 20) Tryd.func32 #[.pointer (some ⟨g, 0, none⟩), .int .i64 (t396.length : Int)] ?_; (with_reducible refine (spec_l1Below.calls g s0_0 x1001_3 x1002_3 (t396.length : Int) t404 t405 t406 w0 _ ?side1 ?side2 A14.out).mono ?_); (case side1 => exact is72_ HI0); (case side2 => repeat (first | (with_reducible first | exact HB.out | apply below_alloc | apply pw_below_drewN | apply below_drew1 | refine below_set ?_ (IsS72.ge HI0.out)) | exact HB.out)); rintro e w20 ⟨rfl, hi, hb, hk⟩; refine ⟨_, rfl, ?_⟩; replace HO_3 := Aside0.mk (Kd.R_mono (Kd.R_keep (IsS72.apart (show IsS72 w0 _ g s0_0 x1001_3 x1002_3 from is72_ HI0) (kr_ HO_3) (by decide)) hk (fun _ h => h.2)) (fun _ h => h.1)); replace HK := Aside0.mk (KeepBut.trans (kb_ HK) hk (.inl rfl)); replace HB := Aside0.mk (hb); replace HI0 := Aside0.mk (hi); clear hb hk hi) | ((with_reducible refine gate_callee (f := 26) rfl ?_); refine gL_ (some 22) Tryd.func26 #[.pointer (some ⟨g, 0, none⟩)] ?_; (with_reducible refine (spec_l10DrawEntry.calls kj3 g s0_0 t405 t406 t407 t408 t409 t410 t411 t412 w0 _ ?side1 ?side2 A15.out).mono ?_); (case side1 => exact is72_ HI0); (case side2 => repeat (first | (with_reducible first | exact HB.out | apply below_alloc | apply pw_below_drewN | apply below_drew1 | refine below_set ?_ (IsS72.ge HI0.out)) | exact HB.out)); rintro e w21 ⟨rfl, hi, hb, hk⟩; refine ⟨_, rfl, ?_⟩; replace HO_3 := Aside0.mk (Kd.R_mono (Kd.R_keep (IsS72.apart (show IsS72 w0 _ g s0_0 t405 t406 from is72_ HI0) (kr_ HO_3) (by decide)) hk (fun _ h => h.2)) (fun _ h => h.1)); replace HK := Aside0.mk (KeepBut.trans (kb_ HK) hk (.inl rfl)); replace HB := Aside0.mk (hb); replace HI0 := Aside0.mk (hi); clear hb hk hi; have p18 : 0 ≤ (t404 : Int) := dA_; have q18 : (t404 : Int) < ((t396.length : Int) : Int) := dA_; obtain ⟨go18, co18, eo18, gb18, gl18, cl18, HG18⟩ := Kd.R_form HO_3.out (by omega); (first | cases eo18 | (injection eo18 with ea_ en_ ec_; (first | subst ea_ | (injection ea_ with ea_; subst ea_)); subst ec_; clear en_)); have GB18 := Aside0.mk gb18; have GG18 := Aside0.mk HG18; clear gb18 gl18 HG18; obtain ⟨ce18, hcl18, hM18, hcc18, hfr18⟩ := Kd.R_elem HO_3.out z29 (t404 : Int) p18 q18; obtain rfl := k29_openM hM18; have hx18_0 : w21.cell? ⟨go18, (t404 : Int).toNat * 4, none⟩ = some (.string ((rd_T29 t396 t404).f0)) := hcc18 0 _ rfl; have hx18_1 : w21.cell? ⟨go18, (t404 : Int).toNat * 4 + 1, none⟩ = some (.int .i64 ((rd_T29 t396 t404).f1)) := hcc18 1 _ rfl; have hx18_2 : w21.cell? ⟨go18, (t404 : Int).toNat * 4 + 2, none⟩ = some (.string ((rd_T29 t396 t404).f2)) := hcc18 2 _ rfl; have hx18_3 : w21.cell? ⟨go18, (t404 : Int).toNat * 4 + 3, none⟩ = some (.bool ((rd_T29 t396 t404).f3)) := hcc18 3 _ rfl; have hf18_0 : w21.frozen? ⟨go18, (t404 : Int).toNat * 4, none⟩ = false := hfr18 0; have hf18_1 : w21.frozen? ⟨go18, (t404 : Int).toNat * 4 + 1, none⟩ = false := hfr18 1; have hf18_2 : w21.frozen? ⟨go18, (t404 : Int).toNat * 4 + 2, none⟩ = false := hfr18 2; have hf18_3 : w21.frozen? ⟨go18, (t404 : Int).toNat * 4 + 3, none⟩ = false := hfr18 3; clear hcl18 hcc18 hfr18; (try clear hM18); replace p18 := eq_true p18; replace q18 := eq_true q18; have HX22 := Aside0.mk (show Kd.R k29 29 w21 w.heap.size (fun _ => True) (.slice (some ⟨go18, 0, none⟩) t396.length co19) t396 from (kr_ HO_3)); obtain ⟨ce22, hcl22, hM22, hcc22, hfr22⟩ := Kd.R_elem HX22.out z29 (t404 : Int) (dA_) (by have h_ : (t404 : Int) < ((t396.length : Int) : Int) := dA_; first | exact h_ | (have e_ := (Kd.R_reads' HO_3.out).1; omega) | simpa using h_); obtain rfl := k29_openM hM22; have HP22 := Kd.R_seg HX22.out (t404 : Int) (dA_) (by have h_ : (t404 : Int) < ((t396.length : Int) : Int) := dA_; first | exact h_ | (have e_ := (Kd.R_reads' HO_3.out).1; omega) | simpa using h_) (seg := [.string t407, .int .i64 t408, .string t409, .bool t410]) (j := 0) hcl22 hcc22 (show 4 ≤ 4 from by decide) (x' := (⟨t407, t408, t409, t410⟩ : S29)) (k29_mkM _ _ _ (⟨t407, t408, t409, t410⟩ : S29) ) (fun _ hk => hk); have hx22_0 := hcc22 0 _ rfl; (try simp only [show (k29).sz = 4 from rfl, Nat.mul_one, Nat.add_zero] at hx22_0); have hf22_0 := hfr22 0; (try simp only [show (k29).sz = 4 from rfl, Nat.mul_one, Nat.add_zero] at hf22_0); have hx22_1 := hcc22 1 _ rfl; (try simp only [show (k29).sz = 4 from rfl, Nat.mul_one, Nat.add_zero] at hx22_1); have hf22_1 := hfr22 1; (try simp only [show (k29).sz = 4 from rfl, Nat.mul_one, Nat.add_zero] at hf22_1); have hx22_2 := hcc22 2 _ rfl; (try simp only [show (k29).sz = 4 from rfl, Nat.mul_one, Nat.add_zero] at hx22_2); have hf22_2 := hfr22 2; (try simp only [show (k29).sz = 4 from rfl, Nat.mul_one, Nat.add_zero] at hf22_2); have hx22_3 := hcc22 3 _ rfl; (try simp only [show (k29).sz = 4 from rfl, Nat.mul_one, Nat.add_zero] at hx22_3); have hf22_3 := hfr22 3; (try simp only [show (k29).sz = 4 from rfl, Nat.mul_one, Nat.add_zero] at hf22_3); clear hcl22 hcc22 hfr22; (try clear hM22)) | ((with_reducible refine gate_store (t := 29) (p := 23) rfl ?_); refine store_event (t := 29) (p := 23) (v := ?vo_w23) (w1 := ((((w21.setCell ⟨go18, (t404 : Int).toNat * 4, none⟩ (.string t407)).setCell ⟨go18, (t404 : Int).toNat * 4 + 1, none⟩ (.int .i64 t408)).setCell ⟨go18, (t404 : Int).toNat * 4 + 2, none⟩ (.string t409)).setCell ⟨go18, (t404 : Int).toNat * 4 + 3, none⟩ (.bool t410))) ?hg ?ho ?hn ?hr ?_; (case ho => rfl); (case hg => rfl); (case hn => rfl); (case hr => first | (go_simp; done) | (go_simp; rfl)); intro w23 hw; have hg : w21.grownBy w23 (some go18) := (by rw [hw]; exact HP22.2); have hp_ : Kd.R k29 29 w23 w.heap.size (fun _ => True) (.slice (some ⟨go18, 0, none⟩) t396.length co19) y413 := (by rw [hw, Ny413.out]; exact HP22.1); clear HP22; replace HI0 := Aside0.mk (IsS72.grown (is72_ HI0) hg (IsS72.own_ne HI0.out HO_3.out (by decide))); replace HB := Aside0.mk ((by rw [hw]; exact below_set (below_set (below_set (below_set (HB.out) (Nat.le_trans HL.out GB18.out)) (Nat.le_trans HL.out GB18.out)) (Nat.le_trans HL.out GB18.out)) (Nat.le_trans HL.out GB18.out) : Below w0.heap.size w0 w23)); replace HK := Aside0.mk (KeepBut.trans (kb_ HK) (KeepBut.of_grown hg g) (Kd.R_base2 HO_3.out)); replace HO_3 := Aside0.mk (hp_); clear hg hw hp_))
    go_meet
    case rel => exact ⟨_, (y413), (t411), (t412), H', ⟨by have := HJ3.out; first | omega | exact Nat.le_refl _⟩, ⟨kr_ HO_3⟩, ⟨is72_ HI0⟩, ⟨kb_ HK⟩, ⟨bwg_ HB (IsS72.ge HI0.out)⟩⟩}
    {
    rw [if_neg c17] at H
    exact absurd H (by simp)}}
    {
    rw [if_neg c16] at H
    exact absurd H (by simp)}}
    {
    replace c13 := Bool.eq_false_iff.mpr c13
    subst c13
    rw [if_neg (show ¬ (false = true) by decide)] at H
    have H' := Aside0.mk H
    clear H
    go_wp2
    go_meet
    case rel => exact ⟨_, (t396), (x1001_3), (x1002_3), H', ⟨by have := HJ3.out; first | omega | exact Nat.le_refl _⟩, ⟨kr_ HO_3⟩, ⟨is72_ HI0⟩, ⟨kb_ HK⟩, ⟨bwg_ HB (IsS72.ge HI0.out)⟩⟩}
   case rest =>
    clear HC12
    try clear c1
    try clear p1
    try clear q1
    try clear hx1
    try clear hf1
    try clear c2
    try clear p2
    try clear hx2
    try clear hf2
    try clear c3
    try clear c4
    try clear c8
    try clear c13
    try clear c16
    try clear c16b0
    try clear c17
    try clear c17b0
    try clear c18
    try clear p18
    try clear q18
    try clear hx18
    try clear hf18
    try clear c22
    try clear hx22
    try clear hf22
    try clear hx18_0
    try clear hx18_1
    try clear hx18_2
    try clear hx18_3
    try clear hx22_0
    try clear hx22_1
    try clear hx22_2
    try clear hx22_3
    try clear p18
    try clear p2
    try clear q18
    obtain ⟨kq, x3_11, x1001_11, x1002_11, HA, HJ11, HO_3, HI0, HK, HB⟩ := hcut
    cases kq with
    | zero => exact absurd HA.out (by simp [spec_l10DrawAny.j1])
    | succ kj11 =>
     have H := HA.out
     clear HA
     simp only [spec_l10DrawAny.j1] at H
     replace H := Option.bind_eq_some_iff.mp H
     obtain ⟨⟨t414, t415, t416⟩, A240, H⟩ := H
     have A24 := Aside0.mk A240
     clear A240
     by_cases c25 : t414 = true
     {
     subst c25
     rw [if_pos rfl] at H
     obtain ⟨y417, hy417⟩ : ∃ y_ : List (S29), y_ = (([] : List (S29))) := ⟨_, rfl⟩
     replace H : ((spec_l1Below.f s0_0 t415 t416 3).bind fun bt420 => (spec_l10DrawAny.l0 kj11 y417 (wrap64 ((wrap64 (bt420.1 + 500)) - 1)) s0_0 bt420.2.1 bt420.2.2)) = some (r1, r2, r3) := rH_ hy417 H
     have Ny417 := Aside0.mk hy417
     clear hy417
     replace H := Option.bind_eq_some_iff.mp H
     obtain ⟨⟨t420, t421, t422⟩, A260, H⟩ := H
     have A26 := Aside0.mk A260
     clear A260
     have H' := Aside0.mk H
     clear H
     go_wp2_with (first | ((with_reducible refine gate_callee (f := 47) rfl ?_); refine gL_ (some 25) Tryd.func47 #[.pointer (some ⟨g, 0, none⟩), .int .i64 100] ?_; (with_reducible refine (spec_l1Once.calls g s0_0 x1001_11 x1002_11 100 true t415 t416 w0 _ ?side1 ?side2 A24.out).mono ?_); (case side1 => exact is72_ HI0); (case side2 => repeat (first | (with_reducible first | exact HB.out | apply below_alloc | apply pw_below_drewN | apply below_drew1 | refine below_set ?_ (IsS72.ge HI0.out)) | exact HB.out)); rintro e w27 ⟨rfl, hi, hb, hk⟩; refine ⟨_, rfl, ?_⟩; replace HO_3 := Aside0.mk (Kd.R_mono (Kd.R_keep (IsS72.apart (show IsS72 w0 _ g s0_0 x1001_11 x1002_11 from is72_ HI0) (kr_ HO_3) (by decide)) hk (fun _ h => h.2)) (fun _ h => h.1)); replace HK := Aside0.mk (KeepBut.trans (kb_ HK) hk (.inl rfl)); replace HB := Aside0.mk (hb); replace HI0 := Aside0.mk (hi); clear hb hk hi) | ((with_reducible refine gate_dst (N := 26) rfl ?_); (try (refine gate_guard (by rfl) ?_; dsimp only)); refine Kd.R_lit k29 _ 29 ?hg (N := 26) ?hd (xs := ([] : List (S29))) (inner := []) (ok := fun _ => True) (okp := fun _ => True) ?hr ?hp (fun _ hk => hk) trivial (Below.refl _ _) (Nat.le_refl _) (by simp) ?_; (case hd => rfl); (case hg => rfl); (case hr => first | (go_simp; done) | (go_simp; rfl)); (case hp => exact (Reps.none _ _)); intro v418 w28 ho29 hb hg_ hnew_; clear hg_ hnew_; (first | rw [← Ny417.out] at ho29 | (simp only [Int.reduceToNat] at ho29; rw [← Ny417.out] at ho29)); have HO419 := Aside0.mk (Kd.R_lower (Kd.R_new' ho29 (Kd.R_lt (kr_ HO_3))) (keep_size (w := w) (g := g) (row := none) (kb_ HK))); replace HO_3 := Aside0.mk (Kd.R_elder' (kr_ HO_3) (Kd.R_base ho29) hb); replace HK := Aside0.mk (KeepBut.trans (kb_ HK) (KeepBut.of_below hb g none) (.inl rfl)); replace HB := Aside0.mk (below_step (bwg_ HB (IsS72.ge HI0.out)) hb); replace HI0 := Aside0.mk (IsS72.below (is72_ HI0) hb); clear hb ho29) | ((with_reducible refine gate_callee (f := 32) rfl ?_); refine gL_ (some 28) Tryd.func32 #[.pointer (some ⟨g, 0, none⟩), .int .i64 3] ?_; (with_reducible refine (spec_l1Below.calls g s0_0 t415 t416 3 t420 t421 t422 w0 _ ?side1 ?side2 A26.out).mono ?_); (case side1 => exact is72_ HI0); (case side2 => repeat (first | (with_reducible first | exact HB.out | apply below_alloc | apply pw_below_drewN | apply below_drew1 | refine below_set ?_ (IsS72.ge HI0.out)) | exact HB.out)); rintro e w30 ⟨rfl, hi, hb, hk⟩; refine ⟨_, rfl, ?_⟩; replace HO_3 := Aside0.mk (Kd.R_mono (Kd.R_keep (IsS72.apart (show IsS72 w0 _ g s0_0 t415 t416 from is72_ HI0) (kr_ HO_3) (by decide)) hk (fun _ h => h.2)) (fun _ h => h.1)); replace HO419 := Aside0.mk (Kd.R_mono (Kd.R_keep (IsS72.apart (show IsS72 w0 _ g s0_0 t415 t416 from is72_ HI0) (kr_ HO419) (by decide)) hk (fun _ h => h.2)) (fun _ h => h.1)); replace HK := Aside0.mk (KeepBut.trans (kb_ HK) hk (.inl rfl)); replace HB := Aside0.mk (hb); replace HI0 := Aside0.mk (hi); clear hb hk hi))
     go_loopg [3, 4] kj11 (fun kq v3 v4 w' => ∃ (x3_3 : List (S29)) (x4_3 : Int), v4 = .int .i64 x4_3 ∧ Aside0 (spec_l10DrawAny.l0 kq x3_3 x4_3 s0_0 t421 t422 = some (r1, r2, r3)) ∧ Aside0 (kq ≤ kj11) ∧ Aside0 (Kd.R k29 29 w' w.heap.size (fun _ => True) v3 x3_3) ∧ Aside0 (IsS72 w0 w' g s0_0 t421 t422) ∧ Aside0 (KeepBut w w' g none) ∧ Aside0 (Below w0.heap.size w0 w'))
     case atStart => exact ⟨(y417), (wrap64 ((wrap64 (t420 + 500)) - 1)), (by first | rfl | (simp; done) | (simp [*]; done)), H', ⟨Nat.le_refl _⟩, ⟨by (with_reducible repeat (first | apply Kd.R_alloc | apply Kd.R_drewN | apply Kd.R_drew)); exact Kd.R_mono HO419.out (fun _ hk => trivial)⟩, ⟨is72_ HI0⟩, ⟨kb_ HK⟩, ⟨bwg_ HB (IsS72.ge HI0.out)⟩⟩
     case round =>
      clear H'
      try clear c1
      try clear p1
      try clear q1
      try clear hx1
      try clear hf1
      try clear c2
      try clear p2
      try clear hx2
      try clear hf2
      try clear c3
      try clear c4
      try clear p6
      try clear c8
      try clear c13
      try clear c16
      try clear c16b0
      try clear c17
      try clear c17b0
      try clear c18
      try clear p18
      try clear q18
      try clear hx18
      try clear hf18
      try clear c22
      try clear hx22
      try clear hf22
      try clear c25
      try clear c26
      try clear hx18_0
      try clear hx18_1
      try clear hx18_2
      try clear hx18_3
      try clear hx22_0
      try clear hx22_1
      try clear hx22_2
      try clear hx22_3
      try clear p1
      try clear p18
      try clear p2
      try clear q1
      try clear q18
      obtain ⟨x3_3, x4_3, rfl, HA, HK3, HO_3, HI0, HK, HB⟩ := hrel
      cases gk with
      | zero => exact absurd HA.out (by simp [spec_l10DrawAny.l0])
      | succ k3 =>
       have H := HA.out
       clear HA
       simp only [spec_l10DrawAny.l0] at H
       by_cases c31 : x4_3 > 0
       {
       rw [if_pos c31] at H
       have c31b0 : decide (0 < x4_3) = true := decide_eq_true c31
       clear c31
       replace H := Option.bind_eq_some_iff.mp H
       obtain ⟨t423, A320, H⟩ := H
       have A32 := Aside0.mk A320
       clear A320
       by_cases c33 : 1 + t423.size ≤ 9223372036854775807
       {
       rw [if_pos c33] at H
       have c33b0 := eq_true c33
       have c33b1 := decide_eq_true c33
       try have c33b2 : (9223372036854775807 < 1 + t423.size) = False := eq_false (Nat.not_lt.2 c33)
       obtain ⟨y424, hy424⟩ : ∃ y_ : List (S29), y_ = (([(⟨(⟨#[112]⟩ : ByteArray) ++ t423, 1, (⟨#[]⟩ : ByteArray), false⟩ : S29)] : List (S29))) := ⟨_, rfl⟩
       replace H : (if y424.length + x3_3.length < 2932031007402 then (spec_l10DrawAny.l0 k3 (y424 ++ x3_3) (wrap64 (x4_3 - 1)) s0_0 t421 t422) else (none)) = some (r1, r2, r3) := rH_ hy424 H
       have Ny424 := Aside0.mk hy424
       clear hy424
       by_cases c34 : y424.length + x3_3.length < 2932031007402
       {
       rw [if_pos c34] at H
       have LMc34 := Aside0.mk c34
       clear c34
       obtain ⟨y427, hy427⟩ : ∃ y_ : List (S29), y_ = (y424 ++ x3_3) := ⟨_, rfl⟩
       replace H : (spec_l10DrawAny.l0 k3 y427 (wrap64 (x4_3 - 1)) s0_0 t421 t422) = some (r1, r2, r3) := rH_ hy427 H
       have Ny427 := Aside0.mk hy427
       clear hy427
       have H' := Aside0.mk H
       clear H
       go_wp2_with (first | ((with_reducible refine gate_callee (f := 48) rfl ?_); refine gL_ (some 37) Tryd.func48 #[.int .i64 (wrap64 (1000 + x4_3))] ?_; (with_reducible refine (spec_l2Int.calls k3 (wrap64 (1000 + x4_3)) t423 _ A32.out).mono ?_); rintro e w35 ⟨rfl, hb⟩; refine ⟨_, rfl, ?_⟩; replace HO_3 := Aside0.mk (Kd.R_below (kr_ HO_3) hb); replace HK := Aside0.mk (KeepBut.trans (kb_ HK) (KeepBut.of_below hb g none) (.inl rfl)); replace HB := Aside0.mk (below_step (bwg_ HB (IsS72.ge HI0.out)) hb); replace HI0 := Aside0.mk (IsS72.below (is72_ HI0) hb); clear hb) | ((with_reducible refine gate_dst (N := 40) rfl ?_); (try (refine gate_guard (by rfl) ?_; dsimp only)); refine Kd.R_lit k29 _ 29 ?hg (N := 40) ?hd (xs := ([(⟨(⟨#[112]⟩ : ByteArray) ++ t423, 1, (⟨#[]⟩ : ByteArray), false⟩ : S29)] : List (S29))) (inner := [.string ((⟨#[112]⟩ : ByteArray) ++ t423), .int .i64 1, .string (⟨#[]⟩ : ByteArray), .bool false]) (ok := fun _ => True) (okp := fun _ => True) ?hr ?hp (fun _ hk => hk) trivial (Below.refl _ _) (Nat.le_refl _) (by simp) ?_; (case hd => rfl); (case hg => rfl); (case hr => first | (go_simp; done) | (go_simp; rfl)); (case hp => exact (Reps.c4 (show Kd.M k29 _ _ _ (⟨(⟨#[112]⟩ : ByteArray) ++ t423, 1, (⟨#[]⟩ : ByteArray), false⟩ : S29) [.string ((⟨#[112]⟩ : ByteArray) ++ t423), .int .i64 1, .string (⟨#[]⟩ : ByteArray), .bool false] from (k29_mkM _ _ _ (⟨(⟨#[112]⟩ : ByteArray) ++ t423, 1, (⟨#[]⟩ : ByteArray), false⟩ : S29) )) (Reps.none _ _))); intro v425 w36 ho37 hb hg_ hnew_; clear hg_ hnew_; (first | rw [← Ny424.out] at ho37 | (simp only [Int.reduceToNat] at ho37; rw [← Ny424.out] at ho37)); have HO426 := Aside0.mk (Kd.R_lower (Kd.R_new' ho37 (Kd.R_lt (kr_ HO_3))) (keep_size (w := w) (g := g) (row := none) (kb_ HK))); replace HO_3 := Aside0.mk (Kd.R_elder' (kr_ HO_3) (Kd.R_base ho37) hb); replace HK := Aside0.mk (KeepBut.trans (kb_ HK) (KeepBut.of_below hb g none) (.inl rfl)); replace HB := Aside0.mk (below_step (bwg_ HB (IsS72.ge HI0.out)) hb); replace HI0 := Aside0.mk (IsS72.below (is72_ HI0) hb); clear hb ho37; obtain ⟨Ao39, co39, eo39⟩ := Kd.R_slice HO_3.out; subst eo39) | ((with_reducible refine gate_builtin (b := .append) (xs := #[.tmp 40, .tmp 41]) rfl ?_); (try (refine gate_guard (by rfl) ?_; dsimp only)); at_builtin; refine Kd.R_append_rows k29 w.heap.size rfl (.tmp 40) (.tmp 41) 24 29 (.agg #[(.string ⟨#[]⟩), (.int .i64 0), (.string ⟨#[]⟩), (.bool false)]) 48 rfl Tryd.underlying24 info29 rfl (by decide) (by omega) v425 y424 x3_3 _ _ _ (fun k_ => some k_ ≠ (.slice Ao39 x3_3.length co39 : Value).ownBlock) (fun _ => False) rfl rfl ?aO ?aR (fun _ _ h => h) (fun _ h => h.elim) ?aF (Below.refl _ _) ?aS ?aL ?_; (case aR => exact cR_ HO_3); (case aF => exact (fun k_ hk => Kd.fresh' (Kd.R_lt (kr_ HO_3)) k_ hk)); (case aO => exact (by (with_reducible repeat (first | apply Kd.R_alloc | apply Kd.R_drewN | apply Kd.R_drew)); exact Kd.R_mono HO426.out (fun _ hk => hk.2))); (case aS => exact (keep_size (w := w) (g := g) (row := none) (kb_ HK))); (case aL => have := LMc34.out; omega); intro v428 w38 ho hb hg hat; rw [← Ny427.out] at ho; replace HO_3 := Aside0.mk (Kd.R_after (ok := (fun _ => True)) (kr_ HO_3) hg hat); replace HB := Aside0.mk (below_weaken (bwg_ HB (IsS72.ge HI0.out)) HL.out hb); replace HI0 := Aside0.mk (IsS72.grown (is72_ HI0) hg (IsS72.own_ne HI0.out HO426.out (by decide))); replace HK := Aside0.mk (KeepBut.trans (kb_ HK) (KeepBut.of_grown hg g) (Kd.R_base2 HO426.out)); have HO429 := Aside0.mk (ho); clear HO426; clear ho hb hg hat))
       go_roundg k3
       case measure => have := HJ3.out; have := HJ11.out; have := HK3.out; omega
       case rel => exact ⟨(y427), (wrap64 (x4_3 - 1)), (by first | rfl | (simp; done) | (simp [*]; done)), H', ⟨by have := HJ3.out; have := HJ11.out; have := HK3.out; omega⟩, ⟨by (with_reducible repeat (first | apply Kd.R_alloc | apply Kd.R_drewN | apply Kd.R_drew)); exact Kd.R_mono HO429.out (fun _ hk => trivial)⟩, ⟨is72_ HI0⟩, ⟨kb_ HK⟩, ⟨bwg_ HB (IsS72.ge HI0.out)⟩⟩}
       {
       rw [if_neg c34] at H
       exact absurd H (by simp)}}
       {
       rw [if_neg c33] at H
       exact absurd H (by simp)}}
       {
       rw [if_neg c31] at H
       have c31b0 : decide (0 < x4_3) = false := decide_eq_false c31
       clear c31
       simp only [Option.some.injEq, Prod.mk.injEq] at H
       obtain ⟨rfl, rfl, rfl⟩ := H
       go_wp2
       go_ret
       exact ⟨_, eR_, kr_ HO_3, is72_ HI0, bwg_ HB (IsS72.ge HI0.out), kb_ HK⟩}}
     {
     replace c25 := Bool.eq_false_iff.mpr c25
     subst c25
     rw [if_neg (show ¬ (false = true) by decide)] at H
     simp only [Option.some.injEq, Prod.mk.injEq] at H
     obtain ⟨rfl, rfl, rfl⟩ := H
     go_wp2_with (first | ((with_reducible refine gate_callee (f := 47) rfl ?_); refine gL_ (some 25) Tryd.func47 #[.pointer (some ⟨g, 0, none⟩), .int .i64 100] ?_; (with_reducible refine (spec_l1Once.calls g s0_0 x1001_11 x1002_11 100 false t415 t416 w0 _ ?side1 ?side2 A24.out).mono ?_); (case side1 => exact is72_ HI0); (case side2 => repeat (first | (with_reducible first | exact HB.out | apply below_alloc | apply pw_below_drewN | apply below_drew1 | refine below_set ?_ (IsS72.ge HI0.out)) | exact HB.out)); rintro e w40 ⟨rfl, hi, hb, hk⟩; refine ⟨_, rfl, ?_⟩; replace HO_3 := Aside0.mk (Kd.R_mono (Kd.R_keep (IsS72.apart (show IsS72 w0 _ g s0_0 x1001_11 x1002_11 from is72_ HI0) (kr_ HO_3) (by decide)) hk (fun _ h => h.2)) (fun _ h => h.1)); replace HK := Aside0.mk (KeepBut.trans (kb_ HK) hk (.inl rfl)); replace HB := Aside0.mk (hb); replace HI0 := Aside0.mk (hi); clear hb hk hi))
     go_ret
     exact ⟨_, eR_, kr_ HO_3, is72_ HI0, bwg_ HB (IsS72.ge HI0.out), kb_ HK⟩
}
def spec_DrawPutEntry.f (k : Nat) (l0 : List Int) : Option ((List (S29)) × ByteArray × Int × ByteArray × Bool) := (spec_l1New.f k l0).bind fun bt431 => ((spec_l10DrawAny.f k bt431.1 bt431.2.1 bt431.2.2).bind fun bt435 => ((spec_l10DrawEntry.f k bt431.1 bt435.2.1 bt435.2.2).bind fun bt440 => (some (bt435.1, bt440.1, bt440.2.1, bt440.2.2.1, bt440.2.2.2.1))))
theorem spec_DrawPutEntry.calls (k : Nat) (A0 : Option Addr) (c0 : Nat) (l0 : List Int) (r1 : List (S29)) (r2 : ByteArray) (r3 : Int) (r4 : ByteArray) (r5 : Bool) (w : World) (hr0 : Kd.C (Kd.int .u8) w A0 l0.length l0) (hc0 : l0.length ≤ c0) (h : spec_DrawPutEntry.f k l0 = some (r1, r2, r3, r4, r5)) :
 Calls Tryd.prog 7 #[.slice A0 l0.length c0] w fun e w' => ∃ v0_ : Value, e = .returned (.tuple #[v0_, .agg #[.string r2, .int .i64 r3, .string r4, .bool r5]]) ∧ Kd.R k29 29 w' w.heap.size (fun _ => True) v0_ r1 ∧ Below w.heap.size w w' := by
 have hu29 := Tryd.underlying29
 have HR0 := Aside0.mk hr0
 have HC0 := Aside0.mk hc0
 clear hr0 hc0
 have HB := Aside0.mk (Below.refl w.heap.size w)
 have H : ((spec_l1New.f k l0).bind fun bt431 => ((spec_l10DrawAny.f k bt431.1 bt431.2.1 bt431.2.2).bind fun bt435 => ((spec_l10DrawEntry.f k bt431.1 bt435.2.1 bt435.2.2).bind fun bt440 => (some (bt435.1, bt440.1, bt440.2.1, bt440.2.2.1, bt440.2.2.2.1))))) = some (r1, r2, r3, r4, r5) := h
 clear h
 replace H := Option.bind_eq_some_iff.mp H
 obtain ⟨⟨t431, t432, t433⟩, A20, H⟩ := H
 have A2 := Aside0.mk A20
 clear A20
 replace H := Option.bind_eq_some_iff.mp H
 obtain ⟨⟨t435, t438, t439⟩, A30, H⟩ := H
 have A3 := Aside0.mk A30
 clear A30
 replace H := Option.bind_eq_some_iff.mp H
 obtain ⟨⟨t440, t441, t442, t443, t444, t445⟩, A40, H⟩ := H
 have A4 := Aside0.mk A40
 clear A40
 simp only [Option.some.injEq, Prod.mk.injEq] at H
 obtain ⟨rfl, rfl, rfl, rfl, rfl⟩ := H
 go_enter Tryd.func7, Tryd.ntmps7
 try go_wp2_with (first | ((with_reducible refine gate_dst (N := 3) rfl ?_); refine bE_ 3 #[.string (⟨#[]⟩ : ByteArray), .int .i64 0, .string (⟨#[]⟩ : ByteArray), .bool false] 29 ?_; intro gb430 hg w5 hbox hb; have BK430 := Aside0.mk (hbox); have GW430 := Aside0.mk ((ge_ hg (bw_ HB))); have GE430 := Aside0.mk ((ge_ hg (bw_ HB))); replace HB := Aside0.mk (below_step (bw_ HB) hb); clear hb hbox hg) | ((with_reducible refine gate_callee (f := 24) rfl ?_); refine gL_ (some 8) Tryd.func24 #[.slice A0 l0.length c0] ?_; (with_reducible refine (spec_l1New.calls k _ _ l0 t431 t432 t433 w _ ?side1 ?side2 ?side3 A2.out).mono ?_); (case side1 => exact bw1_ HB GE430); (case side2 => exact HR0.out); (case side3 => exact HC0.out); rintro e w6 ⟨g434, rfl, hi, hb, hb2⟩; refine ⟨_, rfl, ?_⟩; replace HB := Aside0.mk (hb); have HI434 := Aside0.mk (hi); have NB434_430 := Aside0.mk (IsS72.ne_blk hi (blk_below (bk_ BK430) hb2) (by decide)); have NB430_434 := Aside0.mk (Ne.symm (IsS72.ne_blk hi (blk_below (bk_ BK430) hb2) (by decide))); replace BK430 := Aside0.mk (blk_below (bk_ BK430) hb2); clear hb hb2 hi) | ((with_reducible refine gate_callee (f := 25) rfl ?_); refine gL_ (some 10) Tryd.func25 #[.pointer (some ⟨g434, 0, none⟩)] ?_; (with_reducible refine (spec_l10DrawAny.calls k g434 t431 t432 t433 t435 t438 t439 w _ ?side1 ?side2 A3.out).mono ?_); (case side1 => repeat (first | (with_reducible first | exact HI434.out | apply IsS72.alloc | apply IsS72.drewN | apply IsS72.drew | apply IsS72.set_1 | apply IsS72.set_2 | refine IsS72.far ?_ NB434_430.out _) | exact HI434.out)); (case side2 => repeat (first | (with_reducible first | exact HB.out | apply below_alloc | apply pw_below_drewN | apply below_drew1 | refine below_set ?_ (IsS72.ge HI434.out) | refine below_set ?_ GE430.out) | exact HB.out)); rintro e w7 ⟨v436, rfl, ho0, hi, hb, hk⟩; refine ⟨_, rfl, ?_⟩; have HO437 := Aside0.mk (Kd.R_lower (Kd.R_newB ho0 (g := gb430) (o := .cells #[.string (⟨#[]⟩ : ByteArray), .int .i64 0, .string (⟨#[]⟩ : ByteArray), .bool false] 29 (0, 0)) (bk_ BK430)) (below_size (by repeat (first | (with_reducible first | exact HB.out | apply below_alloc | apply pw_below_drewN | apply below_drew1 | refine below_set ?_ (IsS72.ge HI434.out) | refine below_set ?_ GE430.out) | exact HB.out)))); replace BK430 := Aside0.mk (KeepBut.blk hk (g' := gb430) (o := .cells #[.string (⟨#[]⟩ : ByteArray), .int .i64 0, .string (⟨#[]⟩ : ByteArray), .bool false] 29 (0, 0)) (bk_ BK430) NB430_434.out (by simp)); replace HB := Aside0.mk (hb); replace HI434 := Aside0.mk (hi); clear hb hk hi; (try clear ho0)) | ((with_reducible refine gate_callee (f := 26) rfl ?_); refine gL_ (some 12) Tryd.func26 #[.pointer (some ⟨g434, 0, none⟩)] ?_; (with_reducible refine (spec_l10DrawEntry.calls k g434 t431 t438 t439 t440 t441 t442 t443 t444 t445 w _ ?side1 ?side2 A4.out).mono ?_); (case side1 => repeat (first | (with_reducible first | exact HI434.out | apply IsS72.alloc | apply IsS72.drewN | apply IsS72.drew | apply IsS72.set_1 | apply IsS72.set_2 | refine IsS72.far ?_ NB434_430.out _) | exact HI434.out)); (case side2 => repeat (first | (with_reducible first | exact HB.out | apply below_alloc | apply pw_below_drewN | apply below_drew1 | refine below_set ?_ (IsS72.ge HI434.out) | refine below_set ?_ GE430.out) | exact HB.out)); rintro e w8 ⟨rfl, hi, hb, hk⟩; refine ⟨_, rfl, ?_⟩; replace BK430 := Aside0.mk (KeepBut.blk hk (g' := gb430) (o := .cells #[.string (⟨#[]⟩ : ByteArray), .int .i64 0, .string (⟨#[]⟩ : ByteArray), .bool false] 29 (0, 0)) (bk_ BK430) NB430_434.out (by simp)); replace HO437 := Aside0.mk (Kd.R_mono (Kd.R_keep (IsS72.apart (show IsS72 w _ g434 t431 t438 t439 from by repeat (first | (with_reducible first | exact HI434.out | apply IsS72.alloc | apply IsS72.drewN | apply IsS72.drew | apply IsS72.set_1 | apply IsS72.set_2 | refine IsS72.far ?_ NB434_430.out _) | exact HI434.out)) (kr_ HO437) (by decide)) hk (fun _ h => h.2)) (fun _ h => h.1)); replace HB := Aside0.mk (hb); replace HI434 := Aside0.mk (hi); clear hb hk hi) | ((with_reducible refine gate_dst (N := 6) rfl ?_); refine bE_ 6 #[.string (⟨#[]⟩ : ByteArray), .int .i64 0, .string (⟨#[]⟩ : ByteArray), .bool false] 29 ?_; intro gb446 hg w9 hbox hb; replace HO437 := Aside0.mk (Kd.R_below (Kd.R_elderB (kr_ HO437) gb446 (Nat.le_of_eq hg.symm)) hb); have BK446 := Aside0.mk (hbox); have GW446 := Aside0.mk ((by rw [hg]; exact (below_size (by repeat (first | (with_reducible first | exact HB.out | apply below_alloc | apply pw_below_drewN | apply below_drew1 | refine below_set ?_ (IsS72.ge HI434.out) | refine below_set ?_ GE430.out) | exact HB.out))) : w.heap.size ≤ gb446)); have GE446 := Aside0.mk ((by rw [hg]; exact (below_size (by repeat (first | (with_reducible first | exact HB.out | apply below_alloc | apply pw_below_drewN | apply below_drew1 | refine below_set ?_ (IsS72.ge HI434.out) | refine below_set ?_ GE430.out) | exact HB.out))) : w.heap.size ≤ gb446)); replace HB := Aside0.mk (below_step (by repeat (first | (with_reducible first | exact HB.out | apply below_alloc | apply pw_below_drewN | apply below_drew1 | refine below_set ?_ (IsS72.ge HI434.out) | refine below_set ?_ GE430.out) | exact HB.out)) hb); have NB430_446 := Aside0.mk ((by rw [hg]; exact Nat.ne_of_lt (blk_lt (bk_ BK430)) : gb430 ≠ gb446)); have NB446_430 := Aside0.mk ((by rw [hg]; exact Nat.ne_of_gt (blk_lt (bk_ BK430)) : gb446 ≠ gb430)); replace BK430 := Aside0.mk (blk_below (bk_ BK430) hb); have NB434_446 := Aside0.mk ((by rw [hg]; exact Nat.ne_of_lt (IsS72.lt (show IsS72 w _ g434 t431 t444 t445 from by repeat (first | (with_reducible first | exact HI434.out | apply IsS72.alloc | apply IsS72.drewN | apply IsS72.drew | apply IsS72.set_1 | apply IsS72.set_2 | refine IsS72.far ?_ NB434_430.out _) | exact HI434.out))) : g434 ≠ gb446)); have NB446_434 := Aside0.mk ((by rw [hg]; exact Nat.ne_of_gt (IsS72.lt (show IsS72 w _ g434 t431 t444 t445 from by repeat (first | (with_reducible first | exact HI434.out | apply IsS72.alloc | apply IsS72.drewN | apply IsS72.drew | apply IsS72.set_1 | apply IsS72.set_2 | refine IsS72.far ?_ NB434_430.out _) | exact HI434.out))) : gb446 ≠ g434)); replace HI434 := Aside0.mk (IsS72.below (by repeat (first | (with_reducible first | exact HI434.out | apply IsS72.alloc | apply IsS72.drewN | apply IsS72.drew | apply IsS72.set_1 | apply IsS72.set_2 | refine IsS72.far ?_ NB434_430.out _) | exact HI434.out)) hb); clear hb hbox hg; have hnb10 := NB446_430.out; have hnc10 := NB430_446.out; have hnb11 := NB446_434.out; have hnc11 := NB434_446.out; obtain ⟨hcz12_0, hcz12_1, hcz12_2, hcz12_3, hfz12_0, hfz12_1, hfz12_2, hfz12_3⟩ := zc4_ BK446))
 have n0_ : Aside0 (Kd.R k29 29 ((((w9.setCell ⟨gb446, 0, none⟩ (.string t440)).setCell ⟨gb446, 1, none⟩ (.int .i64 t441)).setCell ⟨gb446, 2, none⟩ (.string t442)).setCell ⟨gb446, 3, none⟩ (.bool t443)) w.heap.size (fun k_ => k_ ≠ gb430 ∧ k_ ≠ gb446) v436 t435) := ⟨by (with_reducible repeat (first | apply Kd.R_alloc | apply Kd.R_drewN | apply Kd.R_drew)); exact Kd.R_mono (Kd.R_far (p := ⟨gb446, 3, none⟩) (Kd.R_far (p := ⟨gb446, 2, none⟩) (Kd.R_far (p := ⟨gb446, 1, none⟩) (Kd.R_far (p := ⟨gb446, 0, none⟩) (Kd.R_mono HO437.out (fun k_ hk => (⟨hk, hk.2⟩ : _ ∧ k_ ≠ gb446))) (fun _ hk => hk.2) (.string t440)) (fun _ hk => hk.2) (.int .i64 t441)) (fun _ hk => hk.2) (.string t442)) (fun _ hk => hk.2) (.bool t443)) (fun _ hk => ⟨hk.1.1.2, hk.1.2⟩)⟩
 have n1_ : Aside0 (((((w9.setCell ⟨gb446, 0, none⟩ (.string t440)).setCell ⟨gb446, 1, none⟩ (.int .i64 t441)).setCell ⟨gb446, 2, none⟩ (.string t442)).setCell ⟨gb446, 3, none⟩ (.bool t443)).heap[gb430]? = some (.cells #[.string (⟨#[]⟩ : ByteArray), .int .i64 0, .string (⟨#[]⟩ : ByteArray), .bool false] 29 (0, 0))) := ⟨by (with_reducible repeat (first | refine blk_drewN ?_ _ | refine blk_drew ?_ | refine blk_alloc ?_ _)); refine blk_far ?_ NB430_446.out _; (with_reducible repeat (first | refine blk_drewN ?_ _ | refine blk_drew ?_ | refine blk_alloc ?_ _)); refine blk_far ?_ NB430_446.out _; (with_reducible repeat (first | refine blk_drewN ?_ _ | refine blk_drew ?_ | refine blk_alloc ?_ _)); refine blk_far ?_ NB430_446.out _; (with_reducible repeat (first | refine blk_drewN ?_ _ | refine blk_drew ?_ | refine blk_alloc ?_ _)); refine blk_far ?_ NB430_446.out _; exact bk_ BK430⟩
 have n2_ : Aside0 (((((w9.setCell ⟨gb446, 0, none⟩ (.string t440)).setCell ⟨gb446, 1, none⟩ (.int .i64 t441)).setCell ⟨gb446, 2, none⟩ (.string t442)).setCell ⟨gb446, 3, none⟩ (.bool t443)).heap[gb446]? = some (.cells #[.string t440, .int .i64 t441, .string t442, .bool t443] 29 (0, 0))) := ⟨by (with_reducible repeat (first | refine blk_drewN ?_ _ | refine blk_drew ?_ | refine blk_alloc ?_ _)); refine blk_put (cs := #[.string t440, .int .i64 t441, .string t442, .bool false]) ?_ 3 _ rfl; (with_reducible repeat (first | refine blk_drewN ?_ _ | refine blk_drew ?_ | refine blk_alloc ?_ _)); refine blk_put (cs := #[.string t440, .int .i64 t441, .string (⟨#[]⟩ : ByteArray), .bool false]) ?_ 2 _ rfl; (with_reducible repeat (first | refine blk_drewN ?_ _ | refine blk_drew ?_ | refine blk_alloc ?_ _)); refine blk_put (cs := #[.string t440, .int .i64 0, .string (⟨#[]⟩ : ByteArray), .bool false]) ?_ 1 _ rfl; (with_reducible repeat (first | refine blk_drewN ?_ _ | refine blk_drew ?_ | refine blk_alloc ?_ _)); refine blk_put (cs := #[.string (⟨#[]⟩ : ByteArray), .int .i64 0, .string (⟨#[]⟩ : ByteArray), .bool false]) ?_ 0 _ rfl; exact bk_ BK446⟩
 have n3_ : Aside0 (IsS72 w ((((w9.setCell ⟨gb446, 0, none⟩ (.string t440)).setCell ⟨gb446, 1, none⟩ (.int .i64 t441)).setCell ⟨gb446, 2, none⟩ (.string t442)).setCell ⟨gb446, 3, none⟩ (.bool t443)) g434 t431 t444 t445) := ⟨by repeat (first | (with_reducible first | exact HI434.out | apply IsS72.alloc | apply IsS72.drewN | apply IsS72.drew | apply IsS72.set_1 | apply IsS72.set_2 | refine IsS72.far ?_ NB434_430.out _ | refine IsS72.far ?_ NB434_446.out _) | exact HI434.out)⟩
 have n4_ : Aside0 (Below w.heap.size w ((((w9.setCell ⟨gb446, 0, none⟩ (.string t440)).setCell ⟨gb446, 1, none⟩ (.int .i64 t441)).setCell ⟨gb446, 2, none⟩ (.string t442)).setCell ⟨gb446, 3, none⟩ (.bool t443))) := ⟨by repeat (first | (with_reducible first | exact HB.out | apply below_alloc | apply pw_below_drewN | apply below_drew1 | refine below_set ?_ (IsS72.ge HI434.out) | refine below_set ?_ GE430.out | refine below_set ?_ GE446.out) | exact HB.out)⟩
 (try clear HO437)
 (try clear BK430)
 (try clear BK446)
 (try clear HI434)
 (try clear HB)
 generalize ((((w9.setCell ⟨gb446, 0, none⟩ (.string t440)).setCell ⟨gb446, 1, none⟩ (.int .i64 t441)).setCell ⟨gb446, 2, none⟩ (.string t442)).setCell ⟨gb446, 3, none⟩ (.bool t443)) = w13 at n0_ n1_ n2_ n3_ n4_ ⊢
 have HO437 := n0_
 have BK430 := n1_
 have BK446 := n2_
 have HI434 := n3_
 have HB := n4_
 clear n0_ n1_ n2_ n3_ n4_
 replace HO437 := Aside0.mk (Kd.R_drew HO437.out)
 replace BK430 := Aside0.mk (blk_drew BK430.out)
 replace BK446 := Aside0.mk (blk_drew BK446.out)
 replace HI434 := Aside0.mk (IsS72.drew HI434.out)
 replace HB := Aside0.mk (below_drew1 HB.out)
 refine start_ (n := 4) (S := fun w' => w'.cell? ⟨gb446, 0, none⟩ = some (.string t440) ∧ w'.cell? ⟨gb446, 1, none⟩ = some (.int .i64 t441) ∧ w'.cell? ⟨gb446, 2, none⟩ = some (.string t442) ∧ w'.cell? ⟨gb446, 3, none⟩ = some (.bool t443)) (ds := []) (bs_ 4 0) (by kernel_rfl) rfl (by kernel_rfl) ⟨(blk_cell BK446.out 0).trans rfl, (blk_cell BK446.out 1).trans rfl, (blk_cell BK446.out 2).trans rfl, (blk_cell BK446.out 3).trans rfl⟩ (fun hHeld => ?_)
 generalize w13.drew = w14 at HO437 BK430 BK446 HI434 HB hHeld ⊢
 refine pure_ (i := 0) (N := some 13) (v := ?_) (a' := ?_) #[true, false, false, false] rfl rfl (by kernel_rfl) (fun _ _ _ h => h) (Or.inl ⟨by rfl, ?_⟩) ?_ ?_
 rotate_left
 {
 intro w'
 go_simp
 with_reducible rfl}
 rotate_left
 {
 simp only [Act.put, List.setIfInBounds_toArray, List.set_cons_zero, List.set_cons_succ, i64_w, i32_w]
 rfl}
 refine pure_ (i := 2) (N := some 2) (v := ?_) (a' := ?_) #[true, false, true, false] rfl rfl (by kernel_rfl) (fun _ _ _ h => h) (Or.inl ⟨by rfl, ?_⟩) ?_ ?_
 rotate_left
 {
 intro w'
 go_simp
 with_reducible rfl}
 rotate_left
 {
 simp only [Act.put, List.setIfInBounds_toArray, List.set_cons_zero, List.set_cons_succ, i64_w, i32_w]
 rfl}
 refine take_ (i := 1) (N := some 14) (v := ?_) (a' := ?_) #[true, true, true, false] rfl rfl (by kernel_rfl) (fun _ _ _ h => h) (Or.inl ⟨by rfl, ?_⟩) hHeld ?_ ?_
 rotate_left
 {
 rintro w' ⟨s0, s1, s2, s3⟩
 go_simp
 with_reducible rfl}
 rotate_left
 {
 simp only [Act.put, List.setIfInBounds_toArray, List.set_cons_zero, List.set_cons_succ, i64_w, i32_w]
 rfl}
 refine one_ (i := 3) (N := none) #[true, true, true, true] rfl rfl (by kernel_rfl) (by decide) (fun K hK => ?_)
 have hs15 : w14.cell? ⟨gb430, 0, none⟩ = some (.string (⟨#[]⟩ : ByteArray)) := (blk_cell BK430.out 0).trans rfl
 have hfs15 := blk_frozen BK430.out 0
 have hns15_1 := NB446_430.out
 have hms15_1 := NB430_446.out
 have hs16 : w14.cell? ⟨gb430, 1, none⟩ = some (.int .i64 0) := (blk_cell BK430.out 1).trans rfl
 have hfs16 := blk_frozen BK430.out 1
 have hns16_1 := NB446_430.out
 have hms16_1 := NB430_446.out
 have hs17 : w14.cell? ⟨gb430, 2, none⟩ = some (.string (⟨#[]⟩ : ByteArray)) := (blk_cell BK430.out 2).trans rfl
 have hfs17 := blk_frozen BK430.out 2
 have hns17_1 := NB446_430.out
 have hms17_1 := NB430_446.out
 have hs18 : w14.cell? ⟨gb430, 3, none⟩ = some (.bool false) := (blk_cell BK430.out 3).trans rfl
 have hfs18 := blk_frozen BK430.out 3
 have hns18_1 := NB446_430.out
 have hms18_1 := NB430_446.out
 refine skip_ (w1 := ?_) (by rfl) rfl ?_ ?_
 rotate_left
 {
 go_simp
 rfl}
 refine hK.out _ _ ⟨((cell_far (p := ⟨gb430, _, none⟩) NB446_430.out _).trans (((cell_far (p := ⟨gb430, _, none⟩) NB446_430.out _).trans (((cell_far (p := ⟨gb430, _, none⟩) NB446_430.out _).trans (((cell_far (p := ⟨gb430, _, none⟩) NB446_430.out _).trans (hHeld.1)))))))), ((cell_far (p := ⟨gb430, _, none⟩) NB446_430.out _).trans (((cell_far (p := ⟨gb430, _, none⟩) NB446_430.out _).trans (((cell_far (p := ⟨gb430, _, none⟩) NB446_430.out _).trans (((cell_far (p := ⟨gb430, _, none⟩) NB446_430.out _).trans (hHeld.2.1)))))))), ((cell_far (p := ⟨gb430, _, none⟩) NB446_430.out _).trans (((cell_far (p := ⟨gb430, _, none⟩) NB446_430.out _).trans (((cell_far (p := ⟨gb430, _, none⟩) NB446_430.out _).trans (((cell_far (p := ⟨gb430, _, none⟩) NB446_430.out _).trans (hHeld.2.2.1)))))))), ((cell_far (p := ⟨gb430, _, none⟩) NB446_430.out _).trans (((cell_far (p := ⟨gb430, _, none⟩) NB446_430.out _).trans (((cell_far (p := ⟨gb430, _, none⟩) NB446_430.out _).trans (((cell_far (p := ⟨gb430, _, none⟩) NB446_430.out _).trans (hHeld.2.2.2))))))))⟩ (fun hHeld => ?_)
 clear hK K
 refine done_ (by kernel_rfl) ?_
 try go_wp2
 refine bodyPost_ret (results_tc rfl _ _ gb430 29 #[.string t440, .int .i64 t441, .string t442, .bool t443] (0, 0) _ rfl (by (with_reducible repeat (first | refine blk_drewN ?_ _ | refine blk_drew ?_ | refine blk_alloc ?_ _)); refine blk_put (cs := #[.string t440, .int .i64 t441, .string t442, .bool false]) ?_ 3 _ rfl; (with_reducible repeat (first | refine blk_drewN ?_ _ | refine blk_drew ?_ | refine blk_alloc ?_ _)); refine blk_put (cs := #[.string t440, .int .i64 t441, .string (⟨#[]⟩ : ByteArray), .bool false]) ?_ 2 _ rfl; (with_reducible repeat (first | refine blk_drewN ?_ _ | refine blk_drew ?_ | refine blk_alloc ?_ _)); refine blk_put (cs := #[.string t440, .int .i64 0, .string (⟨#[]⟩ : ByteArray), .bool false]) ?_ 1 _ rfl; (with_reducible repeat (first | refine blk_drewN ?_ _ | refine blk_drew ?_ | refine blk_alloc ?_ _)); refine blk_put (cs := #[.string (⟨#[]⟩ : ByteArray), .int .i64 0, .string (⟨#[]⟩ : ByteArray), .bool false]) ?_ 0 _ rfl; exact bk_ BK430) Tryd.underlying29 rfl (by kernel_rfl)) rfl ?_
 exact ⟨_, eR_, by (with_reducible repeat (first | apply Kd.R_alloc | apply Kd.R_drewN | apply Kd.R_drew)); exact Kd.R_mono (Kd.R_far (p := ⟨gb430, 3, none⟩) (Kd.R_far (p := ⟨gb430, 2, none⟩) (Kd.R_far (p := ⟨gb430, 1, none⟩) (Kd.R_far (p := ⟨gb430, 0, none⟩) (Kd.R_mono HO437.out (fun k_ hk => (⟨hk, hk.1⟩ : _ ∧ k_ ≠ gb430))) (fun _ hk => hk.2) (.string t440)) (fun _ hk => hk.2) (.int .i64 t441)) (fun _ hk => hk.2) (.string t442)) (fun _ hk => hk.2) (.bool t443)) (fun _ hk => trivial), by repeat (first | (with_reducible first | exact HB.out | apply below_alloc | apply pw_below_drewN | apply below_drew1 | refine below_set ?_ (IsS72.ge HI434.out) | refine below_set ?_ GE430.out | refine below_set ?_ GE446.out) | exact HB.out)⟩
end Go.Proofs.YtjnmcgeahomkeaaDoor.P
end
