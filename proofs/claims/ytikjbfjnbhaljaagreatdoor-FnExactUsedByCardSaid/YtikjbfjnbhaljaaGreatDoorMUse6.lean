/- Texts of Use, put together by program. -/
import Derived.Test.YtikjbfjnbhaljaaGreatDoorMUse2
import Derived.Test.YtikjbfjnbhaljaaGreatDoorMUse3
import Derived.Test.YtikjbfjnbhaljaaGreatDoorMUse5
import Derived.Test.YtikjbfjnbhaljaaGreatDoorMUse4

section
namespace Go.Proofs.YtikjbfjnbhaljaaGreatDoor.P
open Go.RowKit Go.Proofs.YtikjbfjnbhaljaaGreatDoorW.PrintWords Go.Proofs.YtikjbfjnbhaljaaGreatDoorW.PrintLast Go.Proofs.YtikjbfjnbhaljaaGreatDoorW.PrintMore Go.Proofs.YtikjbfjnbhaljaaGreatDoorM
attribute [local go_sem] max2_int min2_int max_two min_two max_three min_three max_four min_four
set_option linter.unusedVariables false
set_option linter.unusedSimpArgs false
set_option maxHeartbeats 8000000
set_option maxRecDepth 100000
def impl_StoreOk.l0 : Nat → List ByteArray → List (S55) → Int → Int → Option (Bool)
 | 0, _, _, _, _ => none
 | k + 1, x3, x14, x15, x16 => if x16 < x15 then (if 0 ≤ x16 then (if x16 < (x14.length : Int) then ((impl_itemOk.f k ((rd_T55 x14 x16).f0) ((rd_T55 x14 x16).f1) ((rd_T55 x14 x16).f2) ((rd_T55 x14 x16).f3) ((rd_T55 x14 x16).f4) x3).bind fun t463 => (if t463 = true then (impl_StoreOk.l0 k x3 x14 x15 (wrap64 (x16 + 1))) else (some false))) else (none)) else (none)) else (some true)
def impl_StoreOk.f (k : Nat) (l0 : List (S55)) : Option (Bool) := if (l0.length : Int) > 300 then (some false) else ((impl_storePaths.f k l0).bind fun t457 => ((impl_rising_hs.f k t457).bind fun t460 => (if t460 = true then (impl_StoreOk.l0 k t457 l0 (l0.length : Int) 0) else (some false))))
theorem impl_StoreOk.mono_l : ∀ k, (∀ y0 y1 y2 y3, LeO (impl_StoreOk.l0 k y0 y1 y2 y3) (impl_StoreOk.l0 (k + 1) y0 y1 y2 y3))
 | 0 => fun _ _ _ _ r h => by simp [impl_StoreOk.l0] at h
 | k + 1 => by
      have ih0 := impl_StoreOk.mono_l k
      {
      intro y0 y1 y2 y3
      unfold impl_StoreOk.l0
      repeat' first
      | (with_reducible exact ih0 _ _ _ _)
      | (with_reducible exact impl_itemOk.mono _ _ _ _ _ _ _)
      | (with_reducible exact impl_rising_hs.mono _ _)
      | (with_reducible exact impl_storePaths.mono _ _)
      | (with_reducible exact LeO.refl _)
      | (with_reducible exact LeO.none _)
      | (with_reducible refine LeO.ite ?_ ?_)
      | (with_reducible refine LeO.bind ?_ (fun _ => ?_))
      | exact ih0 _ _ _ _
      | exact impl_itemOk.mono _ _ _ _ _ _ _
      | exact impl_rising_hs.mono _ _
      | exact impl_storePaths.mono _ _
      | exact LeO.none _
      | refine LeO.ite ?_ ?_
      | refine LeO.bind ?_ (fun _ => ?_)}
theorem impl_StoreOk.mono : ∀ a0 k, LeO (impl_StoreOk.f k a0) (impl_StoreOk.f (k + 1) a0) := by
 intro a0 k
 have ih0 := impl_StoreOk.mono_l k
 unfold impl_StoreOk.f
 repeat' first
  | (with_reducible exact ih0 _ _ _ _)
  | (with_reducible exact impl_itemOk.mono _ _ _ _ _ _ _)
  | (with_reducible exact impl_rising_hs.mono _ _)
  | (with_reducible exact impl_storePaths.mono _ _)
  | (with_reducible exact LeO.refl _)
  | (with_reducible exact LeO.none _)
  | (with_reducible refine LeO.ite ?_ ?_)
  | (with_reducible refine LeO.bind ?_ (fun _ => ?_))
  | exact ih0 _ _ _ _
  | exact impl_itemOk.mono _ _ _ _ _ _ _
  | exact impl_rising_hs.mono _ _
  | exact impl_storePaths.mono _ _
  | exact LeO.none _
  | refine LeO.ite ?_ ?_
  | refine LeO.bind ?_ (fun _ => ?_)
theorem impl_StoreOk.calls (k : Nat) (A0 : Option Addr) (c0 : Nat) (l0 : List (S55)) (r : Bool) (w : World) (hE : EnvW w) (hr0 : Kd.C k55 w A0 l0.length l0) (hc0 : l0.length ≤ c0) (h : impl_StoreOk.f k l0 = some r) :
 Calls Tryz.prog 35 #[.slice A0 l0.length c0] w fun e w' => e = .returned (.bool r) ∧ Below w.heap.size w w' := by
 have hu55 := Tryz.underlying55
 have HE := Aside0.mk hE
 clear hE
 have HR0 := Aside0.mk hr0
 have HC0 := Aside0.mk hc0
 clear hr0 hc0
 have HB := Aside0.mk (Below.refl w.heap.size w)
 have H : (if (l0.length : Int) > 300 then (some false) else ((impl_storePaths.f k l0).bind fun t457 => ((impl_rising_hs.f k t457).bind fun t460 => (if t460 = true then (impl_StoreOk.l0 k t457 l0 (l0.length : Int) 0) else (some false))))) = some r := h
 clear h
 by_cases c2 : (l0.length : Int) > 300
 {
 rw [if_pos c2] at H
 have c2b0 : decide (300 < (l0.length : Int)) = true := decide_eq_true c2
 have c2b1 : decide (300 < l0.length) = true := decide_eq_true (by omega)
 clear c2
 obtain rfl := Option.some.inj H
 go_enter Tryz.func35, Tryz.ntmps35
 go_wp2
 go_ret
 exact ⟨eR_, bw_ HB⟩}
 {
 rw [if_neg c2] at H
 have c2b0 : decide (300 < (l0.length : Int)) = false := decide_eq_false c2
 have c2b1 : decide (300 < l0.length) = false := decide_eq_false (by omega)
 clear c2
 replace H := Option.bind_eq_some_iff.mp H
 obtain ⟨t457, A30, H⟩ := H
 have A3 := Aside0.mk A30
 clear A30
 replace H := Option.bind_eq_some_iff.mp H
 obtain ⟨t460, A40, H⟩ := H
 have A4 := Aside0.mk A40
 clear A40
 by_cases c5 : t460 = true
 {
 subst c5
 rw [if_pos rfl] at H
 have H' := Aside0.mk H
 clear H
 go_enter Tryz.func35, Tryz.ntmps35
 go_wp2_with (first | ((with_reducible refine gate_callee (f := 53) rfl ?_); refine gL_ (some 10) Tryz.func53 #[.slice A0 l0.length c0] ?_; (with_reducible refine (impl_storePaths.calls k _ _ l0 t457 _ ?side1 ?side2 A3.out).mono ?_); (case side1 => repeat (first | exact HR0.out | (with_reducible refine Kd.C_alloc ?_ _) | (with_reducible refine Kd.C_drewN ?_ _) | (with_reducible refine Kd.C_drew ?_))); (case side2 => exact HC0.out); rintro e w6 ⟨v458, rfl, ho0, hb⟩; refine ⟨_, rfl, ?_⟩; have HO459 := Aside0.mk (Kd.R_lower ho0 (below_size (bw_ HB))); replace HB := Aside0.mk (below_step (bw_ HB) hb); clear hb; (try clear ho0); obtain ⟨Ao7, co7, eo7⟩ := Kd.R_slice HO459.out; subst eo7) | ((with_reducible refine gate_callee (f := 65) rfl ?_); refine gL_ (some 12) Tryz.func65 #[.slice Ao7 t457.length co7] ?_; (with_reducible refine (impl_rising_hs.calls k _ _ t457 true _ ?side1 ?side2 A4.out).mono ?_); (case side1 => repeat (first | exact (Kd.R_reads' HO459.out).2.2 | (with_reducible refine Kd.C_alloc ?_ _) | (with_reducible refine Kd.C_drewN ?_ _) | (with_reducible refine Kd.C_drew ?_))); (case side2 => exact (Kd.R_reads' HO459.out).2.1); rintro e w' ⟨rfl, ⟨nd, rfl⟩⟩; refine ⟨_, rfl, ?_⟩))
 go_loopg [16] k (fun kq v16 w' => ∃ (x16_1 : Int), v16 = .int .i64 x16_1 ∧ Aside0 (impl_StoreOk.l0 kq t457 l0 (l0.length : Int) x16_1 = some r) ∧ Aside0 (kq ≤ k) ∧ Aside0 (Kd.R Kd.string 9 w' w.heap.size (fun _ => True) (.slice Ao7 t457.length co7) t457) ∧ Aside0 (Below w.heap.size w w'))
 case atStart => exact ⟨(0), (by first | rfl | (simp; done) | (simp [*]; done)), H', ⟨Nat.le_refl _⟩, ⟨kr_ HO459⟩, ⟨bw_ HB⟩⟩
 case round =>
  clear H'
  try clear c2
  try clear c2b0
  try clear c2b1
  try clear p2
  try clear c3
  try clear c5
  try clear c6
  obtain ⟨x16_1, rfl, HA, HK1, HO_3, HB⟩ := hrel
  cases gk with
  | zero => exact absurd HA.out (by simp [impl_StoreOk.l0])
  | succ k1 =>
       have H := HA.out
       clear HA
       simp only [impl_StoreOk.l0] at H
       by_cases c8 : x16_1 < (l0.length : Int)
       {
       rw [if_pos c8] at H
       have c8b0 := decide_eq_true c8
       clear c8
       by_cases c9 : 0 ≤ x16_1
       {
       rw [if_pos c9] at H
       have c9b0 := decide_eq_true c9
       clear c9
       by_cases c10 : x16_1 < (l0.length : Int)
       {
       rw [if_pos c10] at H
       have c10b0 := decide_eq_true c10
       clear c10
       replace H := Option.bind_eq_some_iff.mp H
       obtain ⟨t463, A110, H⟩ := H
       have A11 := Aside0.mk A110
       clear A110
       by_cases c12 : t463 = true
       {
       subst c12
       rw [if_pos rfl] at H
       have H' := Aside0.mk H
       clear H
       have p461 : 0 ≤ (x16_1 : Int) := dA_
       have q461 : x16_1 < (l0.length : Int) := dA_
       obtain ⟨ad461, A461_2, c461_2, A461_4, c461_4, e461, hx461_0, hx461_1, hx461_2, hx461_3, hx461_4, hl461_2, hi461_2, hl461_4, hi461_4⟩ := at_T55 HR0.out x16_1 p461 q461
       cases e461
       replace hx461_0 := hX_ HB hx461_0
       replace hx461_1 := hX_ HB hx461_1
       replace hx461_2 := hX_ HB hx461_2
       replace hx461_3 := hX_ HB hx461_3
       replace hx461_4 := hX_ HB hx461_4
       have HR461_2 := Aside0.mk hi461_2
       have HC461_2 := Aside0.mk hl461_2
       clear hi461_2 hl461_2
       have HR461_4 := Aside0.mk hi461_4
       have HC461_4 := Aside0.mk hl461_4
       clear hi461_4 hl461_4
       replace p461 := eq_true p461
       replace q461 := eq_true q461
       go_wp2_with (first | ((with_reducible refine gate_dst (N := 5) rfl ?_); refine bE_ 5 #[.string (⟨#[]⟩ : ByteArray), .string (⟨#[]⟩ : ByteArray), .slice none 0 0, .string (⟨#[]⟩ : ByteArray), .slice none 0 0] 55 ?_; intro gb462 hg w13 hbox hb; replace HO_3 := Aside0.mk (Kd.R_below (kr_ HO_3) hb); have BK462 := Aside0.mk (hbox); have GW462 := Aside0.mk (ge_ hg (bw_ HB)); have GE462 := Aside0.mk (ge_ hg (bw_ HB)); replace HB := Aside0.mk (below_step (bw_ HB) hb); clear hb hbox hg; have hcz14_0 := cz_ BK462 0 (.string (⟨#[]⟩ : ByteArray)); have hcz14_1 := cz_ BK462 1 (.string (⟨#[]⟩ : ByteArray)); have hcz14_2 := cz_ BK462 2 (.slice none 0 0); have hcz14_3 := cz_ BK462 3 (.string (⟨#[]⟩ : ByteArray)); have hcz14_4 := cz_ BK462 4 (.slice none 0 0); have hfz14_0 := blk_frozen BK462.out 0; have hfz14_1 := blk_frozen BK462.out 1; have hfz14_2 := blk_frozen BK462.out 2; have hfz14_3 := blk_frozen BK462.out 3; have hfz14_4 := blk_frozen BK462.out 4) | ((with_reducible refine gate_callee (f := 66) rfl ?_); refine gL_ (some 22) Tryz.func66 #[.agg #[.string ((rd_T55 l0 x16_1).f0), .string ((rd_T55 l0 x16_1).f1), .slice A461_2 ((rd_T55 l0 x16_1).f2).length c461_2, .string ((rd_T55 l0 x16_1).f3), .slice A461_4 ((rd_T55 l0 x16_1).f4).length c461_4], .slice Ao7 t457.length co7] ?_; (with_reducible refine (impl_itemOk.calls k1 ((rd_T55 l0 x16_1).f0) ((rd_T55 l0 x16_1).f1) _ _ ((rd_T55 l0 x16_1).f2) ((rd_T55 l0 x16_1).f3) _ _ ((rd_T55 l0 x16_1).f4) _ _ t457 true _ ?side1 ?side2 ?side3 ?side4 ?side5 ?side6 ?side7 A11.out).mono ?_); (case side1 => refine EnvW.below HE.out ?_; repeat (first | (with_reducible first | exact HB.out | apply below_alloc | apply pw_below_drewN | apply below_drew1 | refine below_set ?_ GE462.out) | exact HB.out)); (case side2 => exact Kd.C_below HR461_2.out (bw1_ HB GE462)); (case side3 => exact HC461_2.out); (case side4 => exact Kd.C_below HR461_4.out (bw1_ HB GE462)); (case side5 => exact HC461_4.out); (case side6 => refine (Kd.R_reads' (e := 9) (base := w.heap.size) (ok := fun k_ => True) (n := t457.length) (c := co7) ?_).2.2; exact (by (with_reducible repeat (first | apply Kd.R_alloc | apply Kd.R_drewN | apply Kd.R_drew)); exact (Kd.R_mono (Kd.R_far (p := ⟨gb462, 4, none⟩) (Kd.R_far (p := ⟨gb462, 3, none⟩) (Kd.R_far (p := ⟨gb462, 2, none⟩) (Kd.R_far (p := ⟨gb462, 1, none⟩) (Kd.R_far (p := ⟨gb462, 0, none⟩) (Kd.R_types HO_3.out BK462.out (by decide)) (fun _ hk => hk.2) (.string ((rd_T55 l0 x16_1).f0))) (fun _ hk => hk.2) (.string ((rd_T55 l0 x16_1).f1))) (fun _ hk => hk.2) (.slice A461_2 ((rd_T55 l0 x16_1).f2).length c461_2)) (fun _ hk => hk.2) (.string ((rd_T55 l0 x16_1).f3))) (fun _ hk => hk.2) (.slice A461_4 ((rd_T55 l0 x16_1).f4).length c461_4)) (fun _ h_ => h_.1)))); (case side7 => exact (Kd.R_reads' HO_3.out).2.1); rintro e w15 ⟨rfl, hb⟩; refine ⟨_, rfl, ?_⟩; replace HO_3 := Aside0.mk (Kd.R_below (by (with_reducible repeat (first | apply Kd.R_alloc | apply Kd.R_drewN | apply Kd.R_drew)); exact (Kd.R_mono (Kd.R_far (p := ⟨gb462, 4, none⟩) (Kd.R_far (p := ⟨gb462, 3, none⟩) (Kd.R_far (p := ⟨gb462, 2, none⟩) (Kd.R_far (p := ⟨gb462, 1, none⟩) (Kd.R_far (p := ⟨gb462, 0, none⟩) (Kd.R_types HO_3.out BK462.out (by decide)) (fun _ hk => hk.2) (.string ((rd_T55 l0 x16_1).f0))) (fun _ hk => hk.2) (.string ((rd_T55 l0 x16_1).f1))) (fun _ hk => hk.2) (.slice A461_2 ((rd_T55 l0 x16_1).f2).length c461_2)) (fun _ hk => hk.2) (.string ((rd_T55 l0 x16_1).f3))) (fun _ hk => hk.2) (.slice A461_4 ((rd_T55 l0 x16_1).f4).length c461_4)) (fun _ h_ => h_.1))) hb); replace BK462 := Aside0.mk (blk_below (g := gb462) (o := .cells #[.string ((rd_T55 l0 x16_1).f0), .string ((rd_T55 l0 x16_1).f1), .slice A461_2 ((rd_T55 l0 x16_1).f2).length c461_2, .string ((rd_T55 l0 x16_1).f3), .slice A461_4 ((rd_T55 l0 x16_1).f4).length c461_4] 55 (0, 0)) (by (with_reducible repeat (first | refine blk_drewN ?_ _ | refine blk_drew ?_ | refine blk_alloc ?_ _)); refine blk_put (cs := #[.string ((rd_T55 l0 x16_1).f0), .string ((rd_T55 l0 x16_1).f1), .slice A461_2 ((rd_T55 l0 x16_1).f2).length c461_2, .string ((rd_T55 l0 x16_1).f3), .slice none 0 0]) ?_ 4 _ rfl; (with_reducible repeat (first | refine blk_drewN ?_ _ | refine blk_drew ?_ | refine blk_alloc ?_ _)); refine blk_put (cs := #[.string ((rd_T55 l0 x16_1).f0), .string ((rd_T55 l0 x16_1).f1), .slice A461_2 ((rd_T55 l0 x16_1).f2).length c461_2, .string (⟨#[]⟩ : ByteArray), .slice none 0 0]) ?_ 3 _ rfl; (with_reducible repeat (first | refine blk_drewN ?_ _ | refine blk_drew ?_ | refine blk_alloc ?_ _)); refine blk_put (cs := #[.string ((rd_T55 l0 x16_1).f0), .string ((rd_T55 l0 x16_1).f1), .slice none 0 0, .string (⟨#[]⟩ : ByteArray), .slice none 0 0]) ?_ 2 _ rfl; (with_reducible repeat (first | refine blk_drewN ?_ _ | refine blk_drew ?_ | refine blk_alloc ?_ _)); refine blk_put (cs := #[.string ((rd_T55 l0 x16_1).f0), .string (⟨#[]⟩ : ByteArray), .slice none 0 0, .string (⟨#[]⟩ : ByteArray), .slice none 0 0]) ?_ 1 _ rfl; (with_reducible repeat (first | refine blk_drewN ?_ _ | refine blk_drew ?_ | refine blk_alloc ?_ _)); refine blk_put (cs := #[.string (⟨#[]⟩ : ByteArray), .string (⟨#[]⟩ : ByteArray), .slice none 0 0, .string (⟨#[]⟩ : ByteArray), .slice none 0 0]) ?_ 0 _ rfl; (with_reducible repeat (first | refine blk_drewN ?_ _ | refine blk_drew ?_ | refine blk_alloc ?_ _)); exact BK462.out) hb); replace HB := Aside0.mk (below_step (bw1_ HB GE462) hb); clear hb))
       go_roundg k1
       case measure => have := HK1.out; omega
       case rel => exact ⟨(wrap64 (x16_1 + 1)), (by first | rfl | (simp; done) | (simp [*]; done)), H', ⟨by have := HK1.out; omega⟩, ⟨kr_ HO_3⟩, ⟨bw1_ HB GE462⟩⟩}
       {
       replace c12 := Bool.eq_false_iff.mpr c12
       subst c12
       rw [if_neg (show ¬ (false = true) by decide)] at H
       obtain rfl := Option.some.inj H
       have p461 : 0 ≤ (x16_1 : Int) := dA_
       have q461 : x16_1 < (l0.length : Int) := dA_
       obtain ⟨ad461, A461_2, c461_2, A461_4, c461_4, e461, hx461_0, hx461_1, hx461_2, hx461_3, hx461_4, hl461_2, hi461_2, hl461_4, hi461_4⟩ := at_T55 HR0.out x16_1 p461 q461
       cases e461
       replace hx461_0 := hX_ HB hx461_0
       replace hx461_1 := hX_ HB hx461_1
       replace hx461_2 := hX_ HB hx461_2
       replace hx461_3 := hX_ HB hx461_3
       replace hx461_4 := hX_ HB hx461_4
       have HR461_2 := Aside0.mk hi461_2
       have HC461_2 := Aside0.mk hl461_2
       clear hi461_2 hl461_2
       have HR461_4 := Aside0.mk hi461_4
       have HC461_4 := Aside0.mk hl461_4
       clear hi461_4 hl461_4
       replace p461 := eq_true p461
       replace q461 := eq_true q461
       go_wp2_with (first | ((with_reducible refine gate_dst (N := 5) rfl ?_); refine bE_ 5 #[.string (⟨#[]⟩ : ByteArray), .string (⟨#[]⟩ : ByteArray), .slice none 0 0, .string (⟨#[]⟩ : ByteArray), .slice none 0 0] 55 ?_; intro gb462 hg w16 hbox hb; replace HO_3 := Aside0.mk (Kd.R_below (kr_ HO_3) hb); have BK462 := Aside0.mk (hbox); have GW462 := Aside0.mk (ge_ hg (bw_ HB)); have GE462 := Aside0.mk (ge_ hg (bw_ HB)); replace HB := Aside0.mk (below_step (bw_ HB) hb); clear hb hbox hg; have hcz17_0 := cz_ BK462 0 (.string (⟨#[]⟩ : ByteArray)); have hcz17_1 := cz_ BK462 1 (.string (⟨#[]⟩ : ByteArray)); have hcz17_2 := cz_ BK462 2 (.slice none 0 0); have hcz17_3 := cz_ BK462 3 (.string (⟨#[]⟩ : ByteArray)); have hcz17_4 := cz_ BK462 4 (.slice none 0 0); have hfz17_0 := blk_frozen BK462.out 0; have hfz17_1 := blk_frozen BK462.out 1; have hfz17_2 := blk_frozen BK462.out 2; have hfz17_3 := blk_frozen BK462.out 3; have hfz17_4 := blk_frozen BK462.out 4) | ((with_reducible refine gate_callee (f := 66) rfl ?_); refine gL_ (some 22) Tryz.func66 #[.agg #[.string ((rd_T55 l0 x16_1).f0), .string ((rd_T55 l0 x16_1).f1), .slice A461_2 ((rd_T55 l0 x16_1).f2).length c461_2, .string ((rd_T55 l0 x16_1).f3), .slice A461_4 ((rd_T55 l0 x16_1).f4).length c461_4], .slice Ao7 t457.length co7] ?_; (with_reducible refine (impl_itemOk.calls k1 ((rd_T55 l0 x16_1).f0) ((rd_T55 l0 x16_1).f1) _ _ ((rd_T55 l0 x16_1).f2) ((rd_T55 l0 x16_1).f3) _ _ ((rd_T55 l0 x16_1).f4) _ _ t457 false _ ?side1 ?side2 ?side3 ?side4 ?side5 ?side6 ?side7 A11.out).mono ?_); (case side1 => refine EnvW.below HE.out ?_; repeat (first | (with_reducible first | exact HB.out | apply below_alloc | apply pw_below_drewN | apply below_drew1 | refine below_set ?_ GE462.out) | exact HB.out)); (case side2 => exact Kd.C_below HR461_2.out (bw1_ HB GE462)); (case side3 => exact HC461_2.out); (case side4 => exact Kd.C_below HR461_4.out (bw1_ HB GE462)); (case side5 => exact HC461_4.out); (case side6 => refine (Kd.R_reads' (e := 9) (base := w.heap.size) (ok := fun k_ => True) (n := t457.length) (c := co7) ?_).2.2; exact (by (with_reducible repeat (first | apply Kd.R_alloc | apply Kd.R_drewN | apply Kd.R_drew)); exact (Kd.R_mono (Kd.R_far (p := ⟨gb462, 4, none⟩) (Kd.R_far (p := ⟨gb462, 3, none⟩) (Kd.R_far (p := ⟨gb462, 2, none⟩) (Kd.R_far (p := ⟨gb462, 1, none⟩) (Kd.R_far (p := ⟨gb462, 0, none⟩) (Kd.R_types HO_3.out BK462.out (by decide)) (fun _ hk => hk.2) (.string ((rd_T55 l0 x16_1).f0))) (fun _ hk => hk.2) (.string ((rd_T55 l0 x16_1).f1))) (fun _ hk => hk.2) (.slice A461_2 ((rd_T55 l0 x16_1).f2).length c461_2)) (fun _ hk => hk.2) (.string ((rd_T55 l0 x16_1).f3))) (fun _ hk => hk.2) (.slice A461_4 ((rd_T55 l0 x16_1).f4).length c461_4)) (fun _ h_ => h_.1)))); (case side7 => exact (Kd.R_reads' HO_3.out).2.1); rintro e w18 ⟨rfl, hb⟩; refine ⟨_, rfl, ?_⟩; replace HO_3 := Aside0.mk (Kd.R_below (by (with_reducible repeat (first | apply Kd.R_alloc | apply Kd.R_drewN | apply Kd.R_drew)); exact (Kd.R_mono (Kd.R_far (p := ⟨gb462, 4, none⟩) (Kd.R_far (p := ⟨gb462, 3, none⟩) (Kd.R_far (p := ⟨gb462, 2, none⟩) (Kd.R_far (p := ⟨gb462, 1, none⟩) (Kd.R_far (p := ⟨gb462, 0, none⟩) (Kd.R_types HO_3.out BK462.out (by decide)) (fun _ hk => hk.2) (.string ((rd_T55 l0 x16_1).f0))) (fun _ hk => hk.2) (.string ((rd_T55 l0 x16_1).f1))) (fun _ hk => hk.2) (.slice A461_2 ((rd_T55 l0 x16_1).f2).length c461_2)) (fun _ hk => hk.2) (.string ((rd_T55 l0 x16_1).f3))) (fun _ hk => hk.2) (.slice A461_4 ((rd_T55 l0 x16_1).f4).length c461_4)) (fun _ h_ => h_.1))) hb); replace BK462 := Aside0.mk (blk_below (g := gb462) (o := .cells #[.string ((rd_T55 l0 x16_1).f0), .string ((rd_T55 l0 x16_1).f1), .slice A461_2 ((rd_T55 l0 x16_1).f2).length c461_2, .string ((rd_T55 l0 x16_1).f3), .slice A461_4 ((rd_T55 l0 x16_1).f4).length c461_4] 55 (0, 0)) (by (with_reducible repeat (first | refine blk_drewN ?_ _ | refine blk_drew ?_ | refine blk_alloc ?_ _)); refine blk_put (cs := #[.string ((rd_T55 l0 x16_1).f0), .string ((rd_T55 l0 x16_1).f1), .slice A461_2 ((rd_T55 l0 x16_1).f2).length c461_2, .string ((rd_T55 l0 x16_1).f3), .slice none 0 0]) ?_ 4 _ rfl; (with_reducible repeat (first | refine blk_drewN ?_ _ | refine blk_drew ?_ | refine blk_alloc ?_ _)); refine blk_put (cs := #[.string ((rd_T55 l0 x16_1).f0), .string ((rd_T55 l0 x16_1).f1), .slice A461_2 ((rd_T55 l0 x16_1).f2).length c461_2, .string (⟨#[]⟩ : ByteArray), .slice none 0 0]) ?_ 3 _ rfl; (with_reducible repeat (first | refine blk_drewN ?_ _ | refine blk_drew ?_ | refine blk_alloc ?_ _)); refine blk_put (cs := #[.string ((rd_T55 l0 x16_1).f0), .string ((rd_T55 l0 x16_1).f1), .slice none 0 0, .string (⟨#[]⟩ : ByteArray), .slice none 0 0]) ?_ 2 _ rfl; (with_reducible repeat (first | refine blk_drewN ?_ _ | refine blk_drew ?_ | refine blk_alloc ?_ _)); refine blk_put (cs := #[.string ((rd_T55 l0 x16_1).f0), .string (⟨#[]⟩ : ByteArray), .slice none 0 0, .string (⟨#[]⟩ : ByteArray), .slice none 0 0]) ?_ 1 _ rfl; (with_reducible repeat (first | refine blk_drewN ?_ _ | refine blk_drew ?_ | refine blk_alloc ?_ _)); refine blk_put (cs := #[.string (⟨#[]⟩ : ByteArray), .string (⟨#[]⟩ : ByteArray), .slice none 0 0, .string (⟨#[]⟩ : ByteArray), .slice none 0 0]) ?_ 0 _ rfl; (with_reducible repeat (first | refine blk_drewN ?_ _ | refine blk_drew ?_ | refine blk_alloc ?_ _)); exact BK462.out) hb); replace HB := Aside0.mk (below_step (bw1_ HB GE462) hb); clear hb))
       go_ret
       exact ⟨eR_, bw1_ HB GE462⟩}}
       {
       rw [if_neg c10] at H
       exact absurd H (by simp)}}
       {
       rw [if_neg c9] at H
       exact absurd H (by simp)}}
       {
       rw [if_neg c8] at H
       have c8b0 := decide_eq_false c8
       (try (have c8b0' := c8b0; simp only [hl461_4] at c8b0'))
       clear c8
       obtain rfl := Option.some.inj H
       go_wp2
       go_ret
       exact ⟨eR_, bw_ HB⟩}}
 {
 replace c5 := Bool.eq_false_iff.mpr c5
 subst c5
 rw [if_neg (show ¬ (false = true) by decide)] at H
 obtain rfl := Option.some.inj H
 go_enter Tryz.func35, Tryz.ntmps35
 go_wp2_with (first | ((with_reducible refine gate_callee (f := 53) rfl ?_); refine gL_ (some 10) Tryz.func53 #[.slice A0 l0.length c0] ?_; (with_reducible refine (impl_storePaths.calls k _ _ l0 t457 _ ?side1 ?side2 A3.out).mono ?_); (case side1 => repeat (first | exact HR0.out | (with_reducible refine Kd.C_alloc ?_ _) | (with_reducible refine Kd.C_drewN ?_ _) | (with_reducible refine Kd.C_drew ?_))); (case side2 => exact HC0.out); rintro e w19 ⟨v458, rfl, ho0, hb⟩; refine ⟨_, rfl, ?_⟩; have HO459 := Aside0.mk (Kd.R_lower ho0 (below_size (bw_ HB))); replace HB := Aside0.mk (below_step (bw_ HB) hb); clear hb; (try clear ho0); obtain ⟨Ao20, co20, eo20⟩ := Kd.R_slice HO459.out; subst eo20) | ((with_reducible refine gate_callee (f := 65) rfl ?_); refine gL_ (some 12) Tryz.func65 #[.slice Ao20 t457.length co20] ?_; (with_reducible refine (impl_rising_hs.calls k _ _ t457 false _ ?side1 ?side2 A4.out).mono ?_); (case side1 => repeat (first | exact (Kd.R_reads' HO459.out).2.2 | (with_reducible refine Kd.C_alloc ?_ _) | (with_reducible refine Kd.C_drewN ?_ _) | (with_reducible refine Kd.C_drew ?_))); (case side2 => exact (Kd.R_reads' HO459.out).2.1); rintro e w' ⟨rfl, ⟨nd, rfl⟩⟩; refine ⟨_, rfl, ?_⟩))
 go_ret
 exact ⟨eR_, bw_ HB⟩
}}
def spec_StoreOk.l0 : Nat → List (S55) → List ByteArray → Int → Option (Bool)
 | 0, _, _, _ => none
 | k + 1, x0, x3, x4 => if x4 < (x0.length : Int) then (if x4 > 0 then (if 0 ≤ (wrap64 (x4 - 1)) then (if (wrap64 (x4 - 1)) < (x3.length : Int) then (if 0 ≤ x4 then (if x4 < (x3.length : Int) then (if ((Op.bytesLess ((rdOf ByteArray.empty x3 (wrap64 (x4 - 1))).toList) ((rdOf ByteArray.empty x3 x4).toList)) = true) then ((spec_l12ItemOk.f k ((rd_T55 x0 x4).f0) ((rd_T55 x0 x4).f1) ((rd_T55 x0 x4).f2) ((rd_T55 x0 x4).f3) ((rd_T55 x0 x4).f4) x3).bind fun t286 => (if t286 = true then (spec_StoreOk.l0 k x0 x3 (wrap64 (x4 + 1))) else (some false))) else (some false)) else (none)) else (none)) else (none)) else (none)) else (if 0 ≤ x4 then ((spec_l12ItemOk.f k ((rd_T55 x0 x4).f0) ((rd_T55 x0 x4).f1) ((rd_T55 x0 x4).f2) ((rd_T55 x0 x4).f3) ((rd_T55 x0 x4).f4) x3).bind fun t288 => (if t288 = true then (spec_StoreOk.l0 k x0 x3 (wrap64 (x4 + 1))) else (some false))) else (none))) else (some true)
def spec_StoreOk.f (k : Nat) (l0 : List (S55)) : Option (Bool) := if (l0.length : Int) > 300 then (some false) else ((spec_l12Paths.f k l0).bind fun t280 => (spec_StoreOk.l0 k l0 t280 0))
def spec_StoreOk.T7 : Bool × List (List Nat × List Nat) := (true, [([], []), ([0], [0]), ([1], [1]), ([2], [2]), ([2], [2]), ([4, 2], [2, 4]), ([3, 5, 2], [2, 3, 5]), ([6, 2], [2, 6]), ([2], [2]), ([2], [2]), ([8, 9, 2], [2, 8, 9]), ([10, 2], [2, 10]), ([7, 11, 2], [2, 7, 11]), ([2, 12], [2, 12]), ([13, 2], [13]), ([14], [14]), ([14], [14]), ([15, 16, 14], [14, 15, 16]), ([17, 14], [14, 17]), ([14], [14]), ([18, 19, 14, 14], [14, 18, 19]), ([20, 14], [14, 20]), ([14, 21], [14, 21])])
def spec_StoreOk.B7 : List Nat := [0, 1, 3, 7, 7, 23, 63, 127, 7, 7, 775, 1799, 4095, 8191, 16383, 32767, 32767, 131071, 262143, 32767, 1048575, 2097151, 4194303]
theorem spec_StoreOk.tab7 : rtab .any (opsOf Tryz.f33 7) = spec_StoreOk.T7 := by kernel_rfl
theorem spec_StoreOk.bits7 : waitsOk spec_StoreOk.T7.2 spec_StoreOk.B7 = true := by kernel_rfl
theorem spec_StoreOk.calls (k : Nat) (A0 : Option Addr) (c0 : Nat) (l0 : List (S55)) (r : Bool) (w : World) (hr0 : Kd.C k55 w A0 l0.length l0) (hc0 : l0.length ≤ c0) (h : spec_StoreOk.f k l0 = some r) :
 Calls Tryz.prog 33 #[.slice A0 l0.length c0] w fun e w' => e = .returned (.bool r) ∧ Below w.heap.size w w' := by
 have hu55 := Tryz.underlying55
 have HR0 := Aside0.mk hr0
 have HC0 := Aside0.mk hc0
 clear hr0 hc0
 have HB := Aside0.mk (Below.refl w.heap.size w)
 have H : (if (l0.length : Int) > 300 then (some false) else ((spec_l12Paths.f k l0).bind fun t280 => (spec_StoreOk.l0 k l0 t280 0))) = some r := h
 clear h
 by_cases c2 : (l0.length : Int) > 300
 {
 rw [if_pos c2] at H
 have c2b0 : decide (300 < (l0.length : Int)) = true := decide_eq_true c2
 have c2b1 : decide (300 < l0.length) = true := decide_eq_true (by omega)
 clear c2
 obtain rfl := Option.some.inj H
 go_enter Tryz.func33, Tryz.ntmps33
 go_wp2
 go_ret
 exact ⟨eR_, bw_ HB⟩}
 {
 rw [if_neg c2] at H
 have c2b0 : decide (300 < (l0.length : Int)) = false := decide_eq_false c2
 have c2b1 : decide (300 < l0.length) = false := decide_eq_false (by omega)
 clear c2
 replace H := Option.bind_eq_some_iff.mp H
 obtain ⟨t280, A30, H⟩ := H
 have A3 := Aside0.mk A30
 clear A30
 have H' := Aside0.mk H
 clear H
 go_enter Tryz.func33, Tryz.ntmps33
 go_wp2_with (first | ((with_reducible refine gate_callee (f := 63) rfl ?_); refine gL_ (some 9) Tryz.func63 #[.slice A0 l0.length c0] ?_; (with_reducible refine (spec_l12Paths.calls k _ _ l0 t280 _ ?side1 ?side2 A3.out).mono ?_); (case side1 => repeat (first | exact HR0.out | (with_reducible refine Kd.C_alloc ?_ _) | (with_reducible refine Kd.C_drewN ?_ _) | (with_reducible refine Kd.C_drew ?_))); (case side2 => exact HC0.out); rintro e w4 ⟨v281, rfl, ho0, hb⟩; refine ⟨_, rfl, ?_⟩; have HO282 := Aside0.mk (Kd.R_lower ho0 (below_size (bw_ HB))); replace HB := Aside0.mk (below_step (bw_ HB) hb); clear hb; (try clear ho0)))
 go_loopg [4] k (fun kq v4 w' => ∃ (x4_1 : Int), v4 = .int .i64 x4_1 ∧ Aside0 (spec_StoreOk.l0 kq l0 t280 x4_1 = some r) ∧ Aside0 (kq ≤ k) ∧ Aside0 (Kd.R Kd.string 9 w' w.heap.size (fun _ => True) v281 t280) ∧ Aside0 (Below w.heap.size w w'))
 case atStart => exact ⟨(0), (by first | rfl | (simp; done) | (simp [*]; done)), H', ⟨Nat.le_refl _⟩, ⟨kr_ HO282⟩, ⟨bw_ HB⟩⟩
 case round =>
  clear H'
  try clear c2
  try clear c2b0
  try clear c2b1
  try clear p2
  try clear c3
  obtain ⟨x4_1, rfl, HA, HK1, HO_3, HB⟩ := hrel
  cases gk with
  | zero => exact absurd HA.out (by simp [spec_StoreOk.l0])
  | succ k1 =>
       have H := HA.out
       clear HA
       simp only [spec_StoreOk.l0] at H
       by_cases c5 : x4_1 < (l0.length : Int)
       {
       rw [if_pos c5] at H
       have c5b0 := decide_eq_true c5
       clear c5
       by_cases c6 : x4_1 > 0
       {
       rw [if_pos c6] at H
       have c6b0 : decide (0 < x4_1) = true := decide_eq_true c6
       clear c6
       obtain ⟨ji7, hji7⟩ : ∃ j_ : Int, (wrap64 (x4_1 - 1)) = j_ := ⟨_, rfl⟩
       replace H : (if 0 ≤ (ji7) then (if (ji7) < (t280.length : Int) then (if 0 ≤ x4_1 then (if x4_1 < (t280.length : Int) then (if ((Op.bytesLess ((rdOf ByteArray.empty t280 (ji7)).toList) ((rdOf ByteArray.empty t280 x4_1).toList)) = true) then ((spec_l12ItemOk.f k1 ((rd_T55 l0 x4_1).f0) ((rd_T55 l0 x4_1).f1) ((rd_T55 l0 x4_1).f2) ((rd_T55 l0 x4_1).f3) ((rd_T55 l0 x4_1).f4) t280).bind fun t286 => (if t286 = true then (spec_StoreOk.l0 k1 l0 t280 (wrap64 (x4_1 + 1))) else (some false))) else (some false)) else (none)) else (none)) else (none)) else (none)) = some r := by first | (rw [hji7] at H; exact H) | (simp only [hji7] at H ⊢; exact H)
       have hji7w : (IntKind.i64.wrap (x4_1 - 1)) = ji7 := (i64_w _).trans hji7
       by_cases c8 : 0 ≤ (ji7)
       {
       rw [if_pos c8] at H
       have c8b0 := decide_eq_true c8
       clear c8
       by_cases c9 : (ji7) < (t280.length : Int)
       {
       rw [if_pos c9] at H
       have c9b0 := decide_eq_true c9
       clear c9
       by_cases c10 : 0 ≤ x4_1
       {
       rw [if_pos c10] at H
       have c10b0 := decide_eq_true c10
       clear c10
       by_cases c11 : x4_1 < (t280.length : Int)
       {
       rw [if_pos c11] at H
       have c11b0 := decide_eq_true c11
       clear c11
       by_cases c12 : ((Op.bytesLess ((rdOf ByteArray.empty t280 (ji7)).toList) ((rdOf ByteArray.empty t280 x4_1).toList)) = true)
       {
       rw [if_pos c12] at H
       have c12b0 : (Op.bytesLess ((rdOf ByteArray.empty t280 (ji7)).toList) ((rdOf ByteArray.empty t280 x4_1).toList)) = true := c12
       clear c12
       replace H := Option.bind_eq_some_iff.mp H
       obtain ⟨t286, A130, H⟩ := H
       have A13 := Aside0.mk A130
       clear A130
       by_cases c14 : t286 = true
       {
       subst c14
       rw [if_pos rfl] at H
       have H' := Aside0.mk H
       clear H
       try go_wp2
       replace HO_3 := Aside0.mk (Kd.R_drew HO_3.out)
       replace HB := Aside0.mk (below_drew1 HB.out)
       obtain ⟨Ao16, co16, eo16⟩ := Kd.R_slice HO_3.out
       (first | subst eo16 | (injection eo16 with f1_ f2_ f3_; have f4_ := f1_.symm; have f5_ := f3_.symm; clear f1_ f2_ f3_; subst f4_; subst f5_))
       have p283 : 0 ≤ ((ji7) : Int) := dA_
       have q283 : (ji7) < (t280.length : Int) := dA_
       obtain ⟨ad283, e283, hx283_0⟩ := Kd.at_string (Kd.R_reads' HO_3.out).2.2 (ji7) p283 q283
       cases e283
       replace p283 := eq_true p283
       replace q283 := eq_true q283
       have p284 : 0 ≤ (x4_1 : Int) := dA_
       have q284 : x4_1 < (t280.length : Int) := dA_
       obtain ⟨ad284, e284, hx284_0⟩ := Kd.at_string (Kd.R_reads' HO_3.out).2.2 x4_1 p284 q284
       obtain rfl : ad283 = ad284 := (by injection e284)
       replace p284 := eq_true p284
       replace q284 := eq_true q284
       have p285 : 0 ≤ (x4_1 : Int) := dA_
       have q285 : x4_1 < (l0.length : Int) := dA_
       obtain ⟨ad285, A285_2, c285_2, A285_4, c285_4, e285, hx285_0, hx285_1, hx285_2, hx285_3, hx285_4, hl285_2, hi285_2, hl285_4, hi285_4⟩ := at_T55 HR0.out x4_1 p285 q285
       have hw285_4 := hx285_4
       have hw285_3 := hx285_3
       have hw285_2 := hx285_2
       have hw285_1 := hx285_1
       have hw285_0 := hx285_0
       cases e285
       replace hx285_0 := hX_ HB hx285_0
       replace hx285_1 := hX_ HB hx285_1
       replace hx285_2 := hX_ HB hx285_2
       replace hx285_3 := hX_ HB hx285_3
       replace hx285_4 := hX_ HB hx285_4
       have HR285_2 := Aside0.mk hi285_2
       have HC285_2 := Aside0.mk hl285_2
       clear hi285_2 hl285_2
       have HR285_4 := Aside0.mk hi285_4
       have HC285_4 := Aside0.mk hl285_4
       clear hi285_4 hl285_4
       replace p285 := eq_true p285
       replace q285 := eq_true q285
       refine start_ (n := 23) (S := fun w' => w'.cell? (ad283.add ((ji7)).toNat) = some (.string (rdOf ByteArray.empty t280 (ji7))) ∧ w'.cell? (ad283.add (x4_1).toNat) = some (.string (rdOf ByteArray.empty t280 x4_1)) ∧ w'.cell? (ad285.add ((x4_1).toNat * 5)) = some (.string ((rd_T55 l0 x4_1).f0)) ∧ w'.cell? ⟨(ad285.add ((x4_1).toNat * 5)).block, (ad285.add ((x4_1).toNat * 5)).off + 1, none⟩ = some (.string ((rd_T55 l0 x4_1).f1)) ∧ w'.cell? ⟨(ad285.add ((x4_1).toNat * 5)).block, (ad285.add ((x4_1).toNat * 5)).off + 2, none⟩ = some (.slice A285_2 ((rd_T55 l0 x4_1).f2).length c285_2) ∧ w'.cell? ⟨(ad285.add ((x4_1).toNat * 5)).block, (ad285.add ((x4_1).toNat * 5)).off + 3, none⟩ = some (.string ((rd_T55 l0 x4_1).f3)) ∧ w'.cell? ⟨(ad285.add ((x4_1).toNat * 5)).block, (ad285.add ((x4_1).toNat * 5)).off + 4, none⟩ = some (.slice A285_4 ((rd_T55 l0 x4_1).f4).length c285_4)) (ds := []) (bs_ 23 0) (by kernel_rfl) rfl (by kernel_rfl) ⟨hx283_0, hx284_0, ((HB.out.cell (World.block_lt_of_cell? w _ hw285_0)).trans hw285_0), ((HB.out.cell (World.block_lt_of_cell? w _ hw285_1)).trans hw285_1), ((HB.out.cell (World.block_lt_of_cell? w _ hw285_2)).trans hw285_2), ((HB.out.cell (World.block_lt_of_cell? w _ hw285_3)).trans hw285_3), ((HB.out.cell (World.block_lt_of_cell? w _ hw285_4)).trans hw285_4)⟩ (fun hHeld => ?_); refine with_tabW spec_StoreOk.tab7 spec_StoreOk.bits7 (fun HT_ HW_ => ?_)
       generalize wr.drew = w15 at HO_3 HB HR285_2 HR285_4 hx283_0 hx284_0 hx285_0 hx285_1 hx285_2 hx285_3 hx285_4 hHeld ⊢
       refine pS_ 0 ?_
       refine pS_ 1 ?_
       refine pS_ 2 ?_
       refine pS_ 3 ?_
       refine pS_ 4 ?_
       refine pS_ 5 ?_
       refine pS_ 6 ?_
       refine pS_ 8 ?_
       refine pS_ 9 ?_
       refine pS_ 10 ?_
       refine t7_ 7 hHeld ?_
       refine t7_ 11 hHeld ?_
       refine pS_ 12 ?_
       refine pS_ 13 ?_
       refine pS_ 14 ?_
       refine pS_ 15 ?_
       refine pS_ 16 ?_
       refine pS_ 17 ?_
       refine pS_ 19 ?_
       refine t7_ 18 hHeld ?_
       refine oS_ 20 (fun K hK => ?_)
       refine gS_ Tryz.func64 #[.agg #[.string ((rd_T55 l0 x4_1).f0), .string ((rd_T55 l0 x4_1).f1), .slice A285_2 ((rd_T55 l0 x4_1).f2).length c285_2, .string ((rd_T55 l0 x4_1).f3), .slice A285_4 ((rd_T55 l0 x4_1).f4).length c285_4], .slice (some ad283) t280.length co16] ?_
       with_reducible refine (spec_l12ItemOk.calls k1 ((rd_T55 l0 x4_1).f0) ((rd_T55 l0 x4_1).f1) _ _ ((rd_T55 l0 x4_1).f2) ((rd_T55 l0 x4_1).f3) _ _ ((rd_T55 l0 x4_1).f4) _ _ t280 true _ ?side1 ?side2 ?side3 ?side4 ?side5 ?side6 A13.out).mono ?_
       (case side1 => exact cS_ HR285_2 HB)
       (case side2 => exact HC285_2.out)
       (case side3 => exact cS_ HR285_4 HB)
       (case side4 => exact HC285_4.out)
       (case side5 => repeat (first | exact (Kd.R_reads' HO_3.out).2.2 | (with_reducible refine Kd.C_alloc ?_ _) | (with_reducible refine Kd.C_drewN ?_ _) | (with_reducible refine Kd.C_drew ?_)))
       (case side6 => exact (Kd.R_reads' HO_3.out).2.1)
       rintro e w17 ⟨rfl, hb⟩
       have HS0_ := (hb.cell (World.block_lt_of_cell? _ _ (hHeld.1))).trans (hHeld.1)
       have HS1_ := (hb.cell (World.block_lt_of_cell? _ _ (hHeld.2.1))).trans (hHeld.2.1)
       refine ⟨_, rfl, ?_⟩
       replace HO_3 := Aside0.mk (Kd.R_below (kr_ HO_3) hb)
       replace HB := Aside0.mk (below_step (bw_ HB) hb)
       (try clear hb)
       (try clear hb2)
       (try clear hk)
       (try clear hi)
       refine hK.out _ _ ⟨HS0_, HS1_, ((HB.out.cell (World.block_lt_of_cell? w _ hw285_0)).trans hw285_0), ((HB.out.cell (World.block_lt_of_cell? w _ hw285_1)).trans hw285_1), ((HB.out.cell (World.block_lt_of_cell? w _ hw285_2)).trans hw285_2), ((HB.out.cell (World.block_lt_of_cell? w _ hw285_3)).trans hw285_3), ((HB.out.cell (World.block_lt_of_cell? w _ hw285_4)).trans hw285_4)⟩ (fun hHeld => ?_)
       clear hK K
       refine nS_ 36 ?_
       refine pS_ 21 ?_
       refine pS_ 22 ?_
       refine done_ (done_of HT_.out (by kernel_rfl)) ?_
       try go_wp2
       go_roundg k1
       case measure => have := HK1.out; omega
       case rel => exact ⟨(wrap64 (x4_1 + 1)), (by first | rfl | (simp; done) | (simp [*]; done)), H', ⟨by have := HK1.out; omega⟩, ⟨kr_ HO_3⟩, ⟨bw_ HB⟩⟩}
       {
       replace c14 := Bool.eq_false_iff.mpr c14
       subst c14
       rw [if_neg (show ¬ (false = true) by decide)] at H
       obtain rfl := Option.some.inj H
       try go_wp2
       replace HO_3 := Aside0.mk (Kd.R_drew HO_3.out)
       replace HB := Aside0.mk (below_drew1 HB.out)
       obtain ⟨Ao19, co19, eo19⟩ := Kd.R_slice HO_3.out
       (first | subst eo19 | (injection eo19 with f1_ f2_ f3_; have f4_ := f1_.symm; have f5_ := f3_.symm; clear f1_ f2_ f3_; subst f4_; subst f5_))
       have p283 : 0 ≤ ((ji7) : Int) := dA_
       have q283 : (ji7) < (t280.length : Int) := dA_
       obtain ⟨ad283, e283, hx283_0⟩ := Kd.at_string (Kd.R_reads' HO_3.out).2.2 (ji7) p283 q283
       cases e283
       replace p283 := eq_true p283
       replace q283 := eq_true q283
       have p284 : 0 ≤ (x4_1 : Int) := dA_
       have q284 : x4_1 < (t280.length : Int) := dA_
       obtain ⟨ad284, e284, hx284_0⟩ := Kd.at_string (Kd.R_reads' HO_3.out).2.2 x4_1 p284 q284
       obtain rfl : ad283 = ad284 := (by injection e284)
       replace p284 := eq_true p284
       replace q284 := eq_true q284
       have p285 : 0 ≤ (x4_1 : Int) := dA_
       have q285 : x4_1 < (l0.length : Int) := dA_
       obtain ⟨ad285, A285_2, c285_2, A285_4, c285_4, e285, hx285_0, hx285_1, hx285_2, hx285_3, hx285_4, hl285_2, hi285_2, hl285_4, hi285_4⟩ := at_T55 HR0.out x4_1 p285 q285
       have hw285_4 := hx285_4
       have hw285_3 := hx285_3
       have hw285_2 := hx285_2
       have hw285_1 := hx285_1
       have hw285_0 := hx285_0
       cases e285
       replace hx285_0 := hX_ HB hx285_0
       replace hx285_1 := hX_ HB hx285_1
       replace hx285_2 := hX_ HB hx285_2
       replace hx285_3 := hX_ HB hx285_3
       replace hx285_4 := hX_ HB hx285_4
       have HR285_2 := Aside0.mk hi285_2
       have HC285_2 := Aside0.mk hl285_2
       clear hi285_2 hl285_2
       have HR285_4 := Aside0.mk hi285_4
       have HC285_4 := Aside0.mk hl285_4
       clear hi285_4 hl285_4
       replace p285 := eq_true p285
       replace q285 := eq_true q285
       refine start_ (n := 23) (S := fun w' => w'.cell? (ad283.add ((ji7)).toNat) = some (.string (rdOf ByteArray.empty t280 (ji7))) ∧ w'.cell? (ad283.add (x4_1).toNat) = some (.string (rdOf ByteArray.empty t280 x4_1)) ∧ w'.cell? (ad285.add ((x4_1).toNat * 5)) = some (.string ((rd_T55 l0 x4_1).f0)) ∧ w'.cell? ⟨(ad285.add ((x4_1).toNat * 5)).block, (ad285.add ((x4_1).toNat * 5)).off + 1, none⟩ = some (.string ((rd_T55 l0 x4_1).f1)) ∧ w'.cell? ⟨(ad285.add ((x4_1).toNat * 5)).block, (ad285.add ((x4_1).toNat * 5)).off + 2, none⟩ = some (.slice A285_2 ((rd_T55 l0 x4_1).f2).length c285_2) ∧ w'.cell? ⟨(ad285.add ((x4_1).toNat * 5)).block, (ad285.add ((x4_1).toNat * 5)).off + 3, none⟩ = some (.string ((rd_T55 l0 x4_1).f3)) ∧ w'.cell? ⟨(ad285.add ((x4_1).toNat * 5)).block, (ad285.add ((x4_1).toNat * 5)).off + 4, none⟩ = some (.slice A285_4 ((rd_T55 l0 x4_1).f4).length c285_4)) (ds := []) (bs_ 23 0) (by kernel_rfl) rfl (by kernel_rfl) ⟨hx283_0, hx284_0, ((HB.out.cell (World.block_lt_of_cell? w _ hw285_0)).trans hw285_0), ((HB.out.cell (World.block_lt_of_cell? w _ hw285_1)).trans hw285_1), ((HB.out.cell (World.block_lt_of_cell? w _ hw285_2)).trans hw285_2), ((HB.out.cell (World.block_lt_of_cell? w _ hw285_3)).trans hw285_3), ((HB.out.cell (World.block_lt_of_cell? w _ hw285_4)).trans hw285_4)⟩ (fun hHeld => ?_); refine with_tabW spec_StoreOk.tab7 spec_StoreOk.bits7 (fun HT_ HW_ => ?_)
       generalize wr.drew = w18 at HO_3 HB HR285_2 HR285_4 hx283_0 hx284_0 hx285_0 hx285_1 hx285_2 hx285_3 hx285_4 hHeld ⊢
       refine pS_ 0 ?_
       refine pS_ 1 ?_
       refine pS_ 2 ?_
       refine pS_ 3 ?_
       refine pS_ 4 ?_
       refine pS_ 5 ?_
       refine pS_ 6 ?_
       refine pS_ 8 ?_
       refine pS_ 9 ?_
       refine pS_ 10 ?_
       refine t7_ 7 hHeld ?_
       refine t7_ 11 hHeld ?_
       refine pS_ 12 ?_
       refine pS_ 13 ?_
       refine pS_ 14 ?_
       refine pS_ 15 ?_
       refine pS_ 16 ?_
       refine pS_ 17 ?_
       refine pS_ 19 ?_
       refine t7_ 18 hHeld ?_
       refine oS_ 20 (fun K hK => ?_)
       refine gS_ Tryz.func64 #[.agg #[.string ((rd_T55 l0 x4_1).f0), .string ((rd_T55 l0 x4_1).f1), .slice A285_2 ((rd_T55 l0 x4_1).f2).length c285_2, .string ((rd_T55 l0 x4_1).f3), .slice A285_4 ((rd_T55 l0 x4_1).f4).length c285_4], .slice (some ad283) t280.length co19] ?_
       with_reducible refine (spec_l12ItemOk.calls k1 ((rd_T55 l0 x4_1).f0) ((rd_T55 l0 x4_1).f1) _ _ ((rd_T55 l0 x4_1).f2) ((rd_T55 l0 x4_1).f3) _ _ ((rd_T55 l0 x4_1).f4) _ _ t280 false _ ?side1 ?side2 ?side3 ?side4 ?side5 ?side6 A13.out).mono ?_
       (case side1 => exact cS_ HR285_2 HB)
       (case side2 => exact HC285_2.out)
       (case side3 => exact cS_ HR285_4 HB)
       (case side4 => exact HC285_4.out)
       (case side5 => repeat (first | exact (Kd.R_reads' HO_3.out).2.2 | (with_reducible refine Kd.C_alloc ?_ _) | (with_reducible refine Kd.C_drewN ?_ _) | (with_reducible refine Kd.C_drew ?_)))
       (case side6 => exact (Kd.R_reads' HO_3.out).2.1)
       rintro e w20 ⟨rfl, hb⟩
       have HS0_ := (hb.cell (World.block_lt_of_cell? _ _ (hHeld.1))).trans (hHeld.1)
       have HS1_ := (hb.cell (World.block_lt_of_cell? _ _ (hHeld.2.1))).trans (hHeld.2.1)
       refine ⟨_, rfl, ?_⟩
       replace HO_3 := Aside0.mk (Kd.R_below (kr_ HO_3) hb)
       replace HB := Aside0.mk (below_step (bw_ HB) hb)
       (try clear hb)
       (try clear hb2)
       (try clear hk)
       (try clear hi)
       refine hK.out _ _ ⟨HS0_, HS1_, ((HB.out.cell (World.block_lt_of_cell? w _ hw285_0)).trans hw285_0), ((HB.out.cell (World.block_lt_of_cell? w _ hw285_1)).trans hw285_1), ((HB.out.cell (World.block_lt_of_cell? w _ hw285_2)).trans hw285_2), ((HB.out.cell (World.block_lt_of_cell? w _ hw285_3)).trans hw285_3), ((HB.out.cell (World.block_lt_of_cell? w _ hw285_4)).trans hw285_4)⟩ (fun hHeld => ?_)
       clear hK K
       refine nS_ 36 ?_
       refine pS_ 21 ?_
       refine pS_ 22 ?_
       refine done_ (done_of HT_.out (by kernel_rfl)) ?_
       try go_wp2
       go_ret
       exact ⟨by first | rfl | (simp [errW_none, errW_some] <;> rfl) | (simp only [← hji7]; first | rfl | (simp [errW_none, errW_some] <;> rfl)) | (simp [*, errW_none, errW_some] <;> rfl), bw_ HB⟩}}
       {
       rw [if_neg c12] at H
       have c12b0 : (Op.bytesLess ((rdOf ByteArray.empty t280 (ji7)).toList) ((rdOf ByteArray.empty t280 x4_1).toList)) = false := by simpa using c12
       clear c12
       obtain rfl := Option.some.inj H
       try go_wp2
       replace HO_3 := Aside0.mk (Kd.R_drew HO_3.out)
       replace HB := Aside0.mk (below_drew1 HB.out)
       obtain ⟨Ao22, co22, eo22⟩ := Kd.R_slice HO_3.out
       (first | subst eo22 | (injection eo22 with f1_ f2_ f3_; have f4_ := f1_.symm; have f5_ := f3_.symm; clear f1_ f2_ f3_; subst f4_; subst f5_))
       have p283 : 0 ≤ ((ji7) : Int) := dA_
       have q283 : (ji7) < (t280.length : Int) := dA_
       obtain ⟨ad283, e283, hx283_0⟩ := Kd.at_string (Kd.R_reads' HO_3.out).2.2 (ji7) p283 q283
       cases e283
       replace p283 := eq_true p283
       replace q283 := eq_true q283
       have p284 : 0 ≤ (x4_1 : Int) := dA_
       have q284 : x4_1 < (t280.length : Int) := dA_
       obtain ⟨ad284, e284, hx284_0⟩ := Kd.at_string (Kd.R_reads' HO_3.out).2.2 x4_1 p284 q284
       obtain rfl : ad283 = ad284 := (by injection e284)
       replace p284 := eq_true p284
       replace q284 := eq_true q284
       refine start_ (n := 23) (S := fun w' => w'.cell? (ad283.add ((ji7)).toNat) = some (.string (rdOf ByteArray.empty t280 (ji7))) ∧ w'.cell? (ad283.add (x4_1).toNat) = some (.string (rdOf ByteArray.empty t280 x4_1))) (ds := []) (bs_ 23 0) (by kernel_rfl) rfl (by kernel_rfl) ⟨hx283_0, hx284_0⟩ (fun hHeld => ?_); refine with_tabW spec_StoreOk.tab7 spec_StoreOk.bits7 (fun HT_ HW_ => ?_)
       generalize wr.drew = w21 at HO_3 HB hx283_0 hx284_0 hHeld ⊢
       refine pS_ 0 ?_
       refine pS_ 1 ?_
       refine pS_ 2 ?_
       refine pS_ 3 ?_
       refine pS_ 4 ?_
       refine pS_ 5 ?_
       refine pS_ 6 ?_
       refine pS_ 8 ?_
       refine pS_ 9 ?_
       refine pS_ 10 ?_
       refine t2_ 7 hHeld ?_
       refine t2_ 11 hHeld ?_
       refine pS_ 12 ?_
       refine pS_ 13 ?_
       refine pS_ 14 ?_
       refine pU_ 15 ?_
       refine pU_ 16 ?_
       refine pU_ 17 ?_
       refine pU_ 18 ?_
       refine pU_ 19 ?_
       refine pU_ 20 ?_
       refine pU_ 21 ?_
       refine pS_ 22 ?_
       refine done_ (done_of HT_.out (by kernel_rfl)) ?_
       try go_wp2
       go_ret
       exact ⟨by first | rfl | (simp [errW_none, errW_some] <;> rfl) | (simp only [← hji7]; first | rfl | (simp [errW_none, errW_some] <;> rfl)) | (simp [*, errW_none, errW_some] <;> rfl), bw_ HB⟩}}
       {
       rw [if_neg c11] at H
       exact absurd H (by simp)}}
       {
       rw [if_neg c10] at H
       exact absurd H (by simp)}}
       {
       rw [if_neg c9] at H
       exact absurd H (by simp)}}
       {
       rw [if_neg c8] at H
       exact absurd H (by simp)}}
       {
       rw [if_neg c6] at H
       have c6b0 : decide (0 < x4_1) = false := decide_eq_false c6
       clear c6
       by_cases c23 : 0 ≤ x4_1
       {
       rw [if_pos c23] at H
       have c23b0 := decide_eq_true c23
       clear c23
       replace H := Option.bind_eq_some_iff.mp H
       obtain ⟨t288, A240, H⟩ := H
       have A24 := Aside0.mk A240
       clear A240
       by_cases c25 : t288 = true
       {
       subst c25
       rw [if_pos rfl] at H
       have H' := Aside0.mk H
       clear H
       try go_wp2
       replace HO_3 := Aside0.mk (Kd.R_drew HO_3.out)
       replace HB := Aside0.mk (below_drew1 HB.out)
       have p287 : 0 ≤ (x4_1 : Int) := dA_
       have q287 : x4_1 < (l0.length : Int) := dA_
       obtain ⟨ad287, A287_2, c287_2, A287_4, c287_4, e287, hx287_0, hx287_1, hx287_2, hx287_3, hx287_4, hl287_2, hi287_2, hl287_4, hi287_4⟩ := at_T55 HR0.out x4_1 p287 q287
       have hw287_4 := hx287_4
       have hw287_3 := hx287_3
       have hw287_2 := hx287_2
       have hw287_1 := hx287_1
       have hw287_0 := hx287_0
       cases e287
       replace hx287_0 := hX_ HB hx287_0
       replace hx287_1 := hX_ HB hx287_1
       replace hx287_2 := hX_ HB hx287_2
       replace hx287_3 := hX_ HB hx287_3
       replace hx287_4 := hX_ HB hx287_4
       have HR287_2 := Aside0.mk hi287_2
       have HC287_2 := Aside0.mk hl287_2
       clear hi287_2 hl287_2
       have HR287_4 := Aside0.mk hi287_4
       have HC287_4 := Aside0.mk hl287_4
       clear hi287_4 hl287_4
       replace p287 := eq_true p287
       replace q287 := eq_true q287
       obtain ⟨Ao27, co27, eo27⟩ := Kd.R_slice HO_3.out
       (first | subst eo27 | (injection eo27 with f1_ f2_ f3_; have f4_ := f1_.symm; have f5_ := f3_.symm; clear f1_ f2_ f3_; subst f4_; subst f5_))
       refine start_ (n := 23) (S := fun w' => w'.cell? (ad287.add ((x4_1).toNat * 5)) = some (.string ((rd_T55 l0 x4_1).f0)) ∧ w'.cell? ⟨(ad287.add ((x4_1).toNat * 5)).block, (ad287.add ((x4_1).toNat * 5)).off + 1, none⟩ = some (.string ((rd_T55 l0 x4_1).f1)) ∧ w'.cell? ⟨(ad287.add ((x4_1).toNat * 5)).block, (ad287.add ((x4_1).toNat * 5)).off + 2, none⟩ = some (.slice A287_2 ((rd_T55 l0 x4_1).f2).length c287_2) ∧ w'.cell? ⟨(ad287.add ((x4_1).toNat * 5)).block, (ad287.add ((x4_1).toNat * 5)).off + 3, none⟩ = some (.string ((rd_T55 l0 x4_1).f3)) ∧ w'.cell? ⟨(ad287.add ((x4_1).toNat * 5)).block, (ad287.add ((x4_1).toNat * 5)).off + 4, none⟩ = some (.slice A287_4 ((rd_T55 l0 x4_1).f4).length c287_4)) (ds := []) (bs_ 23 0) (by kernel_rfl) rfl (by kernel_rfl) ⟨((HB.out.cell (World.block_lt_of_cell? w _ hw287_0)).trans hw287_0), ((HB.out.cell (World.block_lt_of_cell? w _ hw287_1)).trans hw287_1), ((HB.out.cell (World.block_lt_of_cell? w _ hw287_2)).trans hw287_2), ((HB.out.cell (World.block_lt_of_cell? w _ hw287_3)).trans hw287_3), ((HB.out.cell (World.block_lt_of_cell? w _ hw287_4)).trans hw287_4)⟩ (fun hHeld => ?_); refine with_tabW spec_StoreOk.tab7 spec_StoreOk.bits7 (fun HT_ HW_ => ?_)
       generalize wr.drew = w26 at HO_3 HB HR287_2 HR287_4 hx287_0 hx287_1 hx287_2 hx287_3 hx287_4 hHeld ⊢
       refine pS_ 0 ?_
       refine pS_ 1 ?_
       refine pS_ 2 ?_
       refine pU_ 3 ?_
       refine pU_ 4 ?_
       refine pU_ 5 ?_
       refine pU_ 6 ?_
       refine pU_ 7 ?_
       refine pU_ 8 ?_
       refine pU_ 9 ?_
       refine pU_ 10 ?_
       refine pU_ 11 ?_
       refine pU_ 12 ?_
       refine pS_ 13 ?_
       refine pS_ 14 ?_
       refine pS_ 15 ?_
       refine pS_ 16 ?_
       refine pS_ 17 ?_
       refine pS_ 19 ?_
       refine t5_ 18 hHeld ?_
       refine oS_ 20 (fun K hK => ?_)
       refine gS_ Tryz.func64 #[.agg #[.string ((rd_T55 l0 x4_1).f0), .string ((rd_T55 l0 x4_1).f1), .slice A287_2 ((rd_T55 l0 x4_1).f2).length c287_2, .string ((rd_T55 l0 x4_1).f3), .slice A287_4 ((rd_T55 l0 x4_1).f4).length c287_4], .slice Ao27 t280.length co27] ?_
       with_reducible refine (spec_l12ItemOk.calls k1 ((rd_T55 l0 x4_1).f0) ((rd_T55 l0 x4_1).f1) _ _ ((rd_T55 l0 x4_1).f2) ((rd_T55 l0 x4_1).f3) _ _ ((rd_T55 l0 x4_1).f4) _ _ t280 true _ ?side1 ?side2 ?side3 ?side4 ?side5 ?side6 A24.out).mono ?_
       (case side1 => exact cS_ HR287_2 HB)
       (case side2 => exact HC287_2.out)
       (case side3 => exact cS_ HR287_4 HB)
       (case side4 => exact HC287_4.out)
       (case side5 => repeat (first | exact (Kd.R_reads' HO_3.out).2.2 | (with_reducible refine Kd.C_alloc ?_ _) | (with_reducible refine Kd.C_drewN ?_ _) | (with_reducible refine Kd.C_drew ?_)))
       (case side6 => exact (Kd.R_reads' HO_3.out).2.1)
       rintro e w28 ⟨rfl, hb⟩
       refine ⟨_, rfl, ?_⟩
       replace HO_3 := Aside0.mk (Kd.R_below (kr_ HO_3) hb)
       replace HB := Aside0.mk (below_step (bw_ HB) hb)
       (try clear hb)
       (try clear hb2)
       (try clear hk)
       (try clear hi)
       refine hK.out _ _ ⟨((HB.out.cell (World.block_lt_of_cell? w _ hw287_0)).trans hw287_0), ((HB.out.cell (World.block_lt_of_cell? w _ hw287_1)).trans hw287_1), ((HB.out.cell (World.block_lt_of_cell? w _ hw287_2)).trans hw287_2), ((HB.out.cell (World.block_lt_of_cell? w _ hw287_3)).trans hw287_3), ((HB.out.cell (World.block_lt_of_cell? w _ hw287_4)).trans hw287_4)⟩ (fun hHeld => ?_)
       clear hK K
       refine nS_ 36 ?_
       refine pS_ 21 ?_
       refine pS_ 22 ?_
       refine done_ (done_of HT_.out (by kernel_rfl)) ?_
       try go_wp2
       go_roundg k1
       case measure => have := HK1.out; omega
       case rel => exact ⟨(wrap64 (x4_1 + 1)), (by first | rfl | (simp; done) | (simp [*]; done)), H', ⟨by have := HK1.out; omega⟩, ⟨kr_ HO_3⟩, ⟨bw_ HB⟩⟩}
       {
       replace c25 := Bool.eq_false_iff.mpr c25
       subst c25
       rw [if_neg (show ¬ (false = true) by decide)] at H
       obtain rfl := Option.some.inj H
       try go_wp2
       replace HO_3 := Aside0.mk (Kd.R_drew HO_3.out)
       replace HB := Aside0.mk (below_drew1 HB.out)
       have p287 : 0 ≤ (x4_1 : Int) := dA_
       have q287 : x4_1 < (l0.length : Int) := dA_
       obtain ⟨ad287, A287_2, c287_2, A287_4, c287_4, e287, hx287_0, hx287_1, hx287_2, hx287_3, hx287_4, hl287_2, hi287_2, hl287_4, hi287_4⟩ := at_T55 HR0.out x4_1 p287 q287
       have hw287_4 := hx287_4
       have hw287_3 := hx287_3
       have hw287_2 := hx287_2
       have hw287_1 := hx287_1
       have hw287_0 := hx287_0
       cases e287
       replace hx287_0 := hX_ HB hx287_0
       replace hx287_1 := hX_ HB hx287_1
       replace hx287_2 := hX_ HB hx287_2
       replace hx287_3 := hX_ HB hx287_3
       replace hx287_4 := hX_ HB hx287_4
       have HR287_2 := Aside0.mk hi287_2
       have HC287_2 := Aside0.mk hl287_2
       clear hi287_2 hl287_2
       have HR287_4 := Aside0.mk hi287_4
       have HC287_4 := Aside0.mk hl287_4
       clear hi287_4 hl287_4
       replace p287 := eq_true p287
       replace q287 := eq_true q287
       obtain ⟨Ao30, co30, eo30⟩ := Kd.R_slice HO_3.out
       (first | subst eo30 | (injection eo30 with f1_ f2_ f3_; have f4_ := f1_.symm; have f5_ := f3_.symm; clear f1_ f2_ f3_; subst f4_; subst f5_))
       refine start_ (n := 23) (S := fun w' => w'.cell? (ad287.add ((x4_1).toNat * 5)) = some (.string ((rd_T55 l0 x4_1).f0)) ∧ w'.cell? ⟨(ad287.add ((x4_1).toNat * 5)).block, (ad287.add ((x4_1).toNat * 5)).off + 1, none⟩ = some (.string ((rd_T55 l0 x4_1).f1)) ∧ w'.cell? ⟨(ad287.add ((x4_1).toNat * 5)).block, (ad287.add ((x4_1).toNat * 5)).off + 2, none⟩ = some (.slice A287_2 ((rd_T55 l0 x4_1).f2).length c287_2) ∧ w'.cell? ⟨(ad287.add ((x4_1).toNat * 5)).block, (ad287.add ((x4_1).toNat * 5)).off + 3, none⟩ = some (.string ((rd_T55 l0 x4_1).f3)) ∧ w'.cell? ⟨(ad287.add ((x4_1).toNat * 5)).block, (ad287.add ((x4_1).toNat * 5)).off + 4, none⟩ = some (.slice A287_4 ((rd_T55 l0 x4_1).f4).length c287_4)) (ds := []) (bs_ 23 0) (by kernel_rfl) rfl (by kernel_rfl) ⟨((HB.out.cell (World.block_lt_of_cell? w _ hw287_0)).trans hw287_0), ((HB.out.cell (World.block_lt_of_cell? w _ hw287_1)).trans hw287_1), ((HB.out.cell (World.block_lt_of_cell? w _ hw287_2)).trans hw287_2), ((HB.out.cell (World.block_lt_of_cell? w _ hw287_3)).trans hw287_3), ((HB.out.cell (World.block_lt_of_cell? w _ hw287_4)).trans hw287_4)⟩ (fun hHeld => ?_); refine with_tabW spec_StoreOk.tab7 spec_StoreOk.bits7 (fun HT_ HW_ => ?_)
       generalize wr.drew = w29 at HO_3 HB HR287_2 HR287_4 hx287_0 hx287_1 hx287_2 hx287_3 hx287_4 hHeld ⊢
       refine pS_ 0 ?_
       refine pS_ 1 ?_
       refine pS_ 2 ?_
       refine pU_ 3 ?_
       refine pU_ 4 ?_
       refine pU_ 5 ?_
       refine pU_ 6 ?_
       refine pU_ 7 ?_
       refine pU_ 8 ?_
       refine pU_ 9 ?_
       refine pU_ 10 ?_
       refine pU_ 11 ?_
       refine pU_ 12 ?_
       refine pS_ 13 ?_
       refine pS_ 14 ?_
       refine pS_ 15 ?_
       refine pS_ 16 ?_
       refine pS_ 17 ?_
       refine pS_ 19 ?_
       refine t5_ 18 hHeld ?_
       refine oS_ 20 (fun K hK => ?_)
       refine gS_ Tryz.func64 #[.agg #[.string ((rd_T55 l0 x4_1).f0), .string ((rd_T55 l0 x4_1).f1), .slice A287_2 ((rd_T55 l0 x4_1).f2).length c287_2, .string ((rd_T55 l0 x4_1).f3), .slice A287_4 ((rd_T55 l0 x4_1).f4).length c287_4], .slice Ao30 t280.length co30] ?_
       with_reducible refine (spec_l12ItemOk.calls k1 ((rd_T55 l0 x4_1).f0) ((rd_T55 l0 x4_1).f1) _ _ ((rd_T55 l0 x4_1).f2) ((rd_T55 l0 x4_1).f3) _ _ ((rd_T55 l0 x4_1).f4) _ _ t280 false _ ?side1 ?side2 ?side3 ?side4 ?side5 ?side6 A24.out).mono ?_
       (case side1 => exact cS_ HR287_2 HB)
       (case side2 => exact HC287_2.out)
       (case side3 => exact cS_ HR287_4 HB)
       (case side4 => exact HC287_4.out)
       (case side5 => repeat (first | exact (Kd.R_reads' HO_3.out).2.2 | (with_reducible refine Kd.C_alloc ?_ _) | (with_reducible refine Kd.C_drewN ?_ _) | (with_reducible refine Kd.C_drew ?_)))
       (case side6 => exact (Kd.R_reads' HO_3.out).2.1)
       rintro e w31 ⟨rfl, hb⟩
       refine ⟨_, rfl, ?_⟩
       replace HO_3 := Aside0.mk (Kd.R_below (kr_ HO_3) hb)
       replace HB := Aside0.mk (below_step (bw_ HB) hb)
       (try clear hb)
       (try clear hb2)
       (try clear hk)
       (try clear hi)
       refine hK.out _ _ ⟨((HB.out.cell (World.block_lt_of_cell? w _ hw287_0)).trans hw287_0), ((HB.out.cell (World.block_lt_of_cell? w _ hw287_1)).trans hw287_1), ((HB.out.cell (World.block_lt_of_cell? w _ hw287_2)).trans hw287_2), ((HB.out.cell (World.block_lt_of_cell? w _ hw287_3)).trans hw287_3), ((HB.out.cell (World.block_lt_of_cell? w _ hw287_4)).trans hw287_4)⟩ (fun hHeld => ?_)
       clear hK K
       refine nS_ 36 ?_
       refine pS_ 21 ?_
       refine pS_ 22 ?_
       refine done_ (done_of HT_.out (by kernel_rfl)) ?_
       try go_wp2
       go_ret
       exact ⟨eR_, bw_ HB⟩}}
       {
       rw [if_neg c23] at H
       exact absurd H (by simp)}}}
       {
       rw [if_neg c5] at H
       have c5b0 := decide_eq_false c5
       (try (have c5b0' := c5b0; simp only [hl287_4] at c5b0'))
       clear c5
       obtain rfl := Option.some.inj H
       go_wp2
       go_ret
       exact ⟨eR_, bw_ HB⟩
}}
def laws_eqStringS.l0 : Nat → List ByteArray → List ByteArray → Int → Option (Bool)
 | 0, _, _, _ => none
 | k + 1, x0, x1, x5 => if x5 < (x0.length : Int) then (if 0 ≤ x5 then (if x5 < (x1.length : Int) then (if (rdOf ByteArray.empty x0 x5).toList = (rdOf ByteArray.empty x1 x5).toList then (laws_eqStringS.l0 k x0 x1 (wrap64 (x5 + 1))) else (some false)) else (none)) else (none)) else (some true)
def laws_eqStringS.f (k : Nat) (l0 : List ByteArray) (l1 : List ByteArray) : Option (Bool) := if (l0.length : Int) = (l1.length : Int) then (laws_eqStringS.l0 k l0 l1 0) else (some false)
theorem laws_eqStringS.calls (k : Nat) (A0 : Option Addr) (c0 : Nat) (l0 : List ByteArray) (A1 : Option Addr) (c1 : Nat) (l1 : List ByteArray) (r : Bool) (w : World) (hr0 : Kd.C Kd.string w A0 l0.length l0) (hc0 : l0.length ≤ c0) (hr1 : Kd.C Kd.string w A1 l1.length l1) (hc1 : l1.length ≤ c1) (h : laws_eqStringS.f k l0 l1 = some r) :
 Calls Tryz.prog 15 #[.slice A0 l0.length c0, .slice A1 l1.length c1] w fun e w' => e = .returned (.bool r) ∧ Drawn0 w w' := by
 have HR0 := Aside0.mk hr0
 have HC0 := Aside0.mk hc0
 clear hr0 hc0
 have HR1 := Aside0.mk hr1
 have HC1 := Aside0.mk hc1
 clear hr1 hc1
 have H : (if (l0.length : Int) = (l1.length : Int) then (laws_eqStringS.l0 k l0 l1 0) else (some false)) = some r := h
 clear h
 by_cases c3 : (l0.length : Int) = (l1.length : Int)
 {
 rw [if_pos c3] at H
 have c3b0 : ((l0.length : Int) == (l1.length : Int)) = true := beq_iff_eq.mpr c3
 have c3b1 : ((l0.length : Int) != (l1.length : Int)) = false := bne_eq_false_iff_eq.mpr c3
 have c3b2 : (l0.length == l1.length) = true := by first | simpa using c3 | (simp at c3 ⊢; omega)
 clear c3
 have H' := Aside0.mk H
 clear H
 go_enter Tryz.func15, Tryz.ntmps15
 go_wp2
 repeat (go_quiet (fail); try go_wp2)
 go_loopg [5] k (fun kq v5 w' => ∃ (x5_1 : Int), v5 = .int .i64 x5_1 ∧ Aside0 (laws_eqStringS.l0 kq l0 l1 x5_1 = some r) ∧ Aside0 (kq ≤ k) ∧ Drawn0 w w')
 case atStart => exact ⟨(0), (by first | rfl | (simp; done) | (simp [*]; done)), H', ⟨Nat.le_refl _⟩, dR_⟩
 case round =>
  clear H'
  try clear c1
  try clear p2
  try clear c3
  try clear c3b0
  try clear c3b1
  try clear c3b2
  obtain ⟨x5_1, rfl, HA, HK1, ⟨m1, rfl⟩⟩ := hrel
  cases gk with
  | zero => exact absurd HA.out (by simp [laws_eqStringS.l0])
  | succ k1 =>
       have H := HA.out
       clear HA
       simp only [laws_eqStringS.l0] at H
       by_cases c4 : x5_1 < (l0.length : Int)
       {
       rw [if_pos c4] at H
       have c4b0 := decide_eq_true c4
       clear c4
       by_cases c5 : 0 ≤ x5_1
       {
       rw [if_pos c5] at H
       have c5b0 := decide_eq_true c5
       clear c5
       by_cases c6 : x5_1 < (l1.length : Int)
       {
       rw [if_pos c6] at H
       have c6b0 := decide_eq_true c6
       clear c6
       by_cases c7 : (rdOf ByteArray.empty l0 x5_1).toList = (rdOf ByteArray.empty l1 x5_1).toList
       {
       rw [if_pos c7] at H
       have c7b0 : ((rdOf ByteArray.empty l0 x5_1).toList == (rdOf ByteArray.empty l1 x5_1).toList) = true := beq_iff_eq.mpr c7
       have c7b1 : ((rdOf ByteArray.empty l0 x5_1).toList != (rdOf ByteArray.empty l1 x5_1).toList) = false := bne_eq_false_iff_eq.mpr c7
       clear c7
       have H' := Aside0.mk H
       clear H
       have p475 : 0 ≤ (x5_1 : Int) := dA_
       have q475 : x5_1 < (l0.length : Int) := dA_
       obtain ⟨ad475, e475, hx475_0⟩ := Kd.at_string HR0.out x5_1 p475 q475
       cases e475
       replace p475 := eq_true p475
       replace q475 := eq_true q475
       have p476 : 0 ≤ (x5_1 : Int) := dA_
       have q476 : x5_1 < (l1.length : Int) := dA_
       obtain ⟨ad476, e476, hx476_0⟩ := Kd.at_string HR1.out x5_1 p476 q476
       cases e476
       replace p476 := eq_true p476
       replace q476 := eq_true q476
       go_wp2
       repeat (go_quiet (fail); try go_wp2)
       go_roundg k1
       case measure => have := HK1.out; omega
       case rel => exact ⟨(wrap64 (x5_1 + 1)), (by first | rfl | (simp; done) | (simp [*]; done)), H', ⟨by have := HK1.out; omega⟩, dR_⟩}
       {
       rw [if_neg c7] at H
       have c7b0 : ((rdOf ByteArray.empty l0 x5_1).toList == (rdOf ByteArray.empty l1 x5_1).toList) = false := beq_eq_false_iff_ne.mpr c7
       have c7b1 : ((rdOf ByteArray.empty l0 x5_1).toList != (rdOf ByteArray.empty l1 x5_1).toList) = true := bne_iff_ne.mpr c7
       obtain rfl := Option.some.inj H
       have p475 : 0 ≤ (x5_1 : Int) := dA_
       have q475 : x5_1 < (l0.length : Int) := dA_
       obtain ⟨ad475, e475, hx475_0⟩ := Kd.at_string HR0.out x5_1 p475 q475
       cases e475
       replace p475 := eq_true p475
       replace q475 := eq_true q475
       have p476 : 0 ≤ (x5_1 : Int) := dA_
       have q476 : x5_1 < (l1.length : Int) := dA_
       obtain ⟨ad476, e476, hx476_0⟩ := Kd.at_string HR1.out x5_1 p476 q476
       cases e476
       replace p476 := eq_true p476
       replace q476 := eq_true q476
       go_wp2
       repeat (go_quiet (fail); try go_wp2)
       go_ret
       exact ⟨eS_, dR_⟩}}
       {
       rw [if_neg c6] at H
       exact absurd H (by simp)}}
       {
       rw [if_neg c5] at H
       exact absurd H (by simp)}}
       {
       rw [if_neg c4] at H
       have c4b0 := decide_eq_false c4
       clear c4
       obtain rfl := Option.some.inj H
       go_wp2
       repeat (go_quiet (fail); try go_wp2)
       go_ret
       exact ⟨eS_, dR_⟩}}
 {
 rw [if_neg c3] at H
 have c3b0 : ((l0.length : Int) == (l1.length : Int)) = false := beq_eq_false_iff_ne.mpr c3
 have c3b1 : ((l0.length : Int) != (l1.length : Int)) = true := bne_iff_ne.mpr c3
 have c3b2 : (l0.length == l1.length) = false := by first | simpa using c3 | (simp at c3 ⊢; omega)
 obtain rfl := Option.some.inj H
 go_enter Tryz.func15, Tryz.ntmps15
 go_wp2
 repeat (go_quiet (fail); try go_wp2)
 go_ret
 exact ⟨eS_, dR_⟩
}
def laws_eqItem.f (k : Nat) (a0_0 : ByteArray) (a0_1 : ByteArray) (l0_2 : List ByteArray) (a0_3 : ByteArray) (l0_4 : List (S57)) (a1_0 : ByteArray) (a1_1 : ByteArray) (l1_2 : List ByteArray) (a1_3 : ByteArray) (l1_4 : List (S57)) : Option (Bool) := if a0_0.toList = a1_0.toList then (if a0_1.toList = a1_1.toList then ((laws_eqStringS.f k l0_2 l1_2).bind fun t484 => (if t484 = true then (if a0_3.toList = a1_3.toList then ((laws_eqEntryS.f k l0_4 l1_4).bind fun t485 => (if t485 = true then (some true) else (some false))) else (some false)) else (some false))) else (some false)) else (some false)
theorem laws_eqItem.calls (k : Nat) (a0_0 : ByteArray) (a0_1 : ByteArray) (A0_2 : Option Addr) (c0_2 : Nat) (l0_2 : List ByteArray) (a0_3 : ByteArray) (A0_4 : Option Addr) (c0_4 : Nat) (l0_4 : List (S57)) (a1_0 : ByteArray) (a1_1 : ByteArray) (A1_2 : Option Addr) (c1_2 : Nat) (l1_2 : List ByteArray) (a1_3 : ByteArray) (A1_4 : Option Addr) (c1_4 : Nat) (l1_4 : List (S57)) (r : Bool) (w : World) (hr0_2 : Kd.C Kd.string w A0_2 l0_2.length l0_2) (hc0_2 : l0_2.length ≤ c0_2) (hr0_4 : Kd.C k57 w A0_4 l0_4.length l0_4) (hc0_4 : l0_4.length ≤ c0_4) (hr1_2 : Kd.C Kd.string w A1_2 l1_2.length l1_2) (hc1_2 : l1_2.length ≤ c1_2) (hr1_4 : Kd.C k57 w A1_4 l1_4.length l1_4) (hc1_4 : l1_4.length ≤ c1_4) (h : laws_eqItem.f k a0_0 a0_1 l0_2 a0_3 l0_4 a1_0 a1_1 l1_2 a1_3 l1_4 = some r) :
 Calls Tryz.prog 36 #[.agg #[.string a0_0, .string a0_1, .slice A0_2 l0_2.length c0_2, .string a0_3, .slice A0_4 l0_4.length c0_4], .agg #[.string a1_0, .string a1_1, .slice A1_2 l1_2.length c1_2, .string a1_3, .slice A1_4 l1_4.length c1_4]] w fun e w' => e = .returned (.bool r) ∧ Below w.heap.size w w' := by
 have hu55 := Tryz.underlying55
 have HR0_2 := Aside0.mk hr0_2
 have HC0_2 := Aside0.mk hc0_2
 clear hr0_2 hc0_2
 have HR0_4 := Aside0.mk hr0_4
 have HC0_4 := Aside0.mk hc0_4
 clear hr0_4 hc0_4
 have HR1_2 := Aside0.mk hr1_2
 have HC1_2 := Aside0.mk hc1_2
 clear hr1_2 hc1_2
 have HR1_4 := Aside0.mk hr1_4
 have HC1_4 := Aside0.mk hc1_4
 clear hr1_4 hc1_4
 have HB := Aside0.mk (Below.refl w.heap.size w)
 have H : (if a0_0.toList = a1_0.toList then (if a0_1.toList = a1_1.toList then ((laws_eqStringS.f k l0_2 l1_2).bind fun t484 => (if t484 = true then (if a0_3.toList = a1_3.toList then ((laws_eqEntryS.f k l0_4 l1_4).bind fun t485 => (if t485 = true then (some true) else (some false))) else (some false)) else (some false))) else (some false)) else (some false)) = some r := h
 clear h
 by_cases c3 : a0_0.toList = a1_0.toList
 {
 rw [if_pos c3] at H
 have c3b0 : (a0_0.toList == a1_0.toList) = true := beq_iff_eq.mpr c3
 have c3b1 : (a0_0.toList != a1_0.toList) = false := bne_eq_false_iff_eq.mpr c3
 clear c3
 by_cases c4 : a0_1.toList = a1_1.toList
 {
 rw [if_pos c4] at H
 have c4b0 : (a0_1.toList == a1_1.toList) = true := beq_iff_eq.mpr c4
 have c4b1 : (a0_1.toList != a1_1.toList) = false := bne_eq_false_iff_eq.mpr c4
 clear c4
 replace H := Option.bind_eq_some_iff.mp H
 obtain ⟨t484, A50, H⟩ := H
 have A5 := Aside0.mk A50
 clear A50
 by_cases c6 : t484 = true
 {
 subst c6
 rw [if_pos rfl] at H
 by_cases c7 : a0_3.toList = a1_3.toList
 {
 rw [if_pos c7] at H
 have c7b0 : (a0_3.toList == a1_3.toList) = true := beq_iff_eq.mpr c7
 have c7b1 : (a0_3.toList != a1_3.toList) = false := bne_eq_false_iff_eq.mpr c7
 clear c7
 replace H := Option.bind_eq_some_iff.mp H
 obtain ⟨t485, A80, H⟩ := H
 have A8 := Aside0.mk A80
 clear A80
 by_cases c9 : t485 = true
 {
 subst c9
 rw [if_pos rfl] at H
 obtain rfl := Option.some.inj H
 go_enter Tryz.func36, Tryz.ntmps36
 go_wp2_with (first | ((with_reducible refine gate_dst (N := 2) rfl ?_); refine bE_ 2 #[.string a0_0, .string a0_1, .slice A0_2 l0_2.length c0_2, .string a0_3, .slice A0_4 l0_4.length c0_4] 55 ?_; intro gb482 hg w10 hbox hb; have BK482 := Aside0.mk (hbox); have GW482 := Aside0.mk (ge_ hg (bw_ HB)); have GE482 := Aside0.mk (ge_ hg (bw_ HB)); replace HB := Aside0.mk (below_step (bw_ HB) hb); clear hb hbox hg) | ((with_reducible refine gate_dst (N := 3) rfl ?_); refine bE_ 3 #[.string a1_0, .string a1_1, .slice A1_2 l1_2.length c1_2, .string a1_3, .slice A1_4 l1_4.length c1_4] 55 ?_; intro gb483 hg w11 hbox hb; have BK483 := Aside0.mk (hbox); have GW483 := Aside0.mk (ge_ hg (bw1_ HB GE482)); have GE483 := Aside0.mk (ge_ hg (bw1_ HB GE482)); replace HB := Aside0.mk (below_step (bw1_ HB GE482) hb); have NB482_483 := Aside0.mk ((by rw [hg]; exact Nat.ne_of_lt (blk_lt (bk_ BK482)) : gb482 ≠ gb483)); have NB483_482 := Aside0.mk ((by rw [hg]; exact Nat.ne_of_gt (blk_lt (bk_ BK482)) : gb483 ≠ gb482)); replace BK482 := Aside0.mk (blk_below (bk_ BK482) hb); clear hb hbox hg; have hnb12 := NB482_483.out; have hnc12 := NB483_482.out; have hcz13_0 := cz_ BK482 0 (.string a0_0); have hcz13_1 := cz_ BK482 1 (.string a0_1); have hcz13_2 := cz_ BK482 2 (.slice A0_2 l0_2.length c0_2); have hcz13_3 := cz_ BK482 3 (.string a0_3); have hcz13_4 := cz_ BK482 4 (.slice A0_4 l0_4.length c0_4); have hfz13_0 := blk_frozen BK482.out 0; have hfz13_1 := blk_frozen BK482.out 1; have hfz13_2 := blk_frozen BK482.out 2; have hfz13_3 := blk_frozen BK482.out 3; have hfz13_4 := blk_frozen BK482.out 4; have hcz14_0 := cz_ BK483 0 (.string a1_0); have hcz14_1 := cz_ BK483 1 (.string a1_1); have hcz14_2 := cz_ BK483 2 (.slice A1_2 l1_2.length c1_2); have hcz14_3 := cz_ BK483 3 (.string a1_3); have hcz14_4 := cz_ BK483 4 (.slice A1_4 l1_4.length c1_4); have hfz14_0 := blk_frozen BK483.out 0; have hfz14_1 := blk_frozen BK483.out 1; have hfz14_2 := blk_frozen BK483.out 2; have hfz14_3 := blk_frozen BK483.out 3; have hfz14_4 := blk_frozen BK483.out 4) | ((with_reducible refine gate_callee (f := 15) rfl ?_); refine gL_ (some 19) Tryz.func15 #[.slice A0_2 l0_2.length c0_2, .slice A1_2 l1_2.length c1_2] ?_; (with_reducible refine (laws_eqStringS.calls k _ _ l0_2 _ _ l1_2 true _ ?side1 ?side2 ?side3 ?side4 A5.out).mono ?_); (case side1 => exact cS_ HR0_2 HB); (case side2 => exact HC0_2.out); (case side3 => exact cS_ HR1_2 HB); (case side4 => exact HC1_2.out); rintro e w' ⟨rfl, ⟨nd, rfl⟩⟩; refine ⟨_, rfl, ?_⟩) | ((with_reducible refine gate_callee (f := 23) rfl ?_); refine gL_ (some 30) Tryz.func23 #[.slice A0_4 l0_4.length c0_4, .slice A1_4 l1_4.length c1_4] ?_; (with_reducible refine (laws_eqEntryS.calls k _ _ l0_4 _ _ l1_4 true _ ?side1 ?side2 ?side3 ?side4 A8.out).mono ?_); (case side1 => repeat (first | exact (Kd.C_below HR0_4.out (bw2_ HB GE482 GE483)) | (with_reducible refine Kd.C_alloc ?_ _) | (with_reducible refine Kd.C_drewN ?_ _) | (with_reducible refine Kd.C_drew ?_))); (case side2 => exact HC0_4.out); (case side3 => repeat (first | exact (Kd.C_below HR1_4.out (bw2_ HB GE482 GE483)) | (with_reducible refine Kd.C_alloc ?_ _) | (with_reducible refine Kd.C_drewN ?_ _) | (with_reducible refine Kd.C_drew ?_))); (case side4 => exact HC1_4.out); rintro e w15 ⟨rfl, hb⟩; refine ⟨_, rfl, ?_⟩; replace BK482 := Aside0.mk (blk_below (bk_ BK482) hb); replace BK483 := Aside0.mk (blk_below (bk_ BK483) hb); replace HB := Aside0.mk (below_step (bw2_ HB GE482 GE483) hb); clear hb))
 go_ret
 exact ⟨eR_, bw2_ HB GE482 GE483⟩}
 {
 replace c9 := Bool.eq_false_iff.mpr c9
 subst c9
 rw [if_neg (show ¬ (false = true) by decide)] at H
 obtain rfl := Option.some.inj H
 go_enter Tryz.func36, Tryz.ntmps36
 go_wp2_with (first | ((with_reducible refine gate_dst (N := 2) rfl ?_); refine bE_ 2 #[.string a0_0, .string a0_1, .slice A0_2 l0_2.length c0_2, .string a0_3, .slice A0_4 l0_4.length c0_4] 55 ?_; intro gb482 hg w16 hbox hb; have BK482 := Aside0.mk (hbox); have GW482 := Aside0.mk (ge_ hg (bw_ HB)); have GE482 := Aside0.mk (ge_ hg (bw_ HB)); replace HB := Aside0.mk (below_step (bw_ HB) hb); clear hb hbox hg) | ((with_reducible refine gate_dst (N := 3) rfl ?_); refine bE_ 3 #[.string a1_0, .string a1_1, .slice A1_2 l1_2.length c1_2, .string a1_3, .slice A1_4 l1_4.length c1_4] 55 ?_; intro gb483 hg w17 hbox hb; have BK483 := Aside0.mk (hbox); have GW483 := Aside0.mk (ge_ hg (bw1_ HB GE482)); have GE483 := Aside0.mk (ge_ hg (bw1_ HB GE482)); replace HB := Aside0.mk (below_step (bw1_ HB GE482) hb); have NB482_483 := Aside0.mk ((by rw [hg]; exact Nat.ne_of_lt (blk_lt (bk_ BK482)) : gb482 ≠ gb483)); have NB483_482 := Aside0.mk ((by rw [hg]; exact Nat.ne_of_gt (blk_lt (bk_ BK482)) : gb483 ≠ gb482)); replace BK482 := Aside0.mk (blk_below (bk_ BK482) hb); clear hb hbox hg; have hnb18 := NB482_483.out; have hnc18 := NB483_482.out; have hcz19_0 := cz_ BK482 0 (.string a0_0); have hcz19_1 := cz_ BK482 1 (.string a0_1); have hcz19_2 := cz_ BK482 2 (.slice A0_2 l0_2.length c0_2); have hcz19_3 := cz_ BK482 3 (.string a0_3); have hcz19_4 := cz_ BK482 4 (.slice A0_4 l0_4.length c0_4); have hfz19_0 := blk_frozen BK482.out 0; have hfz19_1 := blk_frozen BK482.out 1; have hfz19_2 := blk_frozen BK482.out 2; have hfz19_3 := blk_frozen BK482.out 3; have hfz19_4 := blk_frozen BK482.out 4; have hcz20_0 := cz_ BK483 0 (.string a1_0); have hcz20_1 := cz_ BK483 1 (.string a1_1); have hcz20_2 := cz_ BK483 2 (.slice A1_2 l1_2.length c1_2); have hcz20_3 := cz_ BK483 3 (.string a1_3); have hcz20_4 := cz_ BK483 4 (.slice A1_4 l1_4.length c1_4); have hfz20_0 := blk_frozen BK483.out 0; have hfz20_1 := blk_frozen BK483.out 1; have hfz20_2 := blk_frozen BK483.out 2; have hfz20_3 := blk_frozen BK483.out 3; have hfz20_4 := blk_frozen BK483.out 4) | ((with_reducible refine gate_callee (f := 15) rfl ?_); refine gL_ (some 19) Tryz.func15 #[.slice A0_2 l0_2.length c0_2, .slice A1_2 l1_2.length c1_2] ?_; (with_reducible refine (laws_eqStringS.calls k _ _ l0_2 _ _ l1_2 true _ ?side1 ?side2 ?side3 ?side4 A5.out).mono ?_); (case side1 => exact cS_ HR0_2 HB); (case side2 => exact HC0_2.out); (case side3 => exact cS_ HR1_2 HB); (case side4 => exact HC1_2.out); rintro e w' ⟨rfl, ⟨nd, rfl⟩⟩; refine ⟨_, rfl, ?_⟩) | ((with_reducible refine gate_callee (f := 23) rfl ?_); refine gL_ (some 30) Tryz.func23 #[.slice A0_4 l0_4.length c0_4, .slice A1_4 l1_4.length c1_4] ?_; (with_reducible refine (laws_eqEntryS.calls k _ _ l0_4 _ _ l1_4 false _ ?side1 ?side2 ?side3 ?side4 A8.out).mono ?_); (case side1 => repeat (first | exact (Kd.C_below HR0_4.out (bw2_ HB GE482 GE483)) | (with_reducible refine Kd.C_alloc ?_ _) | (with_reducible refine Kd.C_drewN ?_ _) | (with_reducible refine Kd.C_drew ?_))); (case side2 => exact HC0_4.out); (case side3 => repeat (first | exact (Kd.C_below HR1_4.out (bw2_ HB GE482 GE483)) | (with_reducible refine Kd.C_alloc ?_ _) | (with_reducible refine Kd.C_drewN ?_ _) | (with_reducible refine Kd.C_drew ?_))); (case side4 => exact HC1_4.out); rintro e w21 ⟨rfl, hb⟩; refine ⟨_, rfl, ?_⟩; replace BK482 := Aside0.mk (blk_below (bk_ BK482) hb); replace BK483 := Aside0.mk (blk_below (bk_ BK483) hb); replace HB := Aside0.mk (below_step (bw2_ HB GE482 GE483) hb); clear hb))
 go_ret
 exact ⟨eR_, bw2_ HB GE482 GE483⟩}}
 {
 rw [if_neg c7] at H
 have c7b0 : (a0_3.toList == a1_3.toList) = false := beq_eq_false_iff_ne.mpr c7
 have c7b1 : (a0_3.toList != a1_3.toList) = true := bne_iff_ne.mpr c7
 obtain rfl := Option.some.inj H
 go_enter Tryz.func36, Tryz.ntmps36
 go_wp2_with (first | ((with_reducible refine gate_dst (N := 2) rfl ?_); refine bE_ 2 #[.string a0_0, .string a0_1, .slice A0_2 l0_2.length c0_2, .string a0_3, .slice A0_4 l0_4.length c0_4] 55 ?_; intro gb482 hg w22 hbox hb; have BK482 := Aside0.mk (hbox); have GW482 := Aside0.mk (ge_ hg (bw_ HB)); have GE482 := Aside0.mk (ge_ hg (bw_ HB)); replace HB := Aside0.mk (below_step (bw_ HB) hb); clear hb hbox hg) | ((with_reducible refine gate_dst (N := 3) rfl ?_); refine bE_ 3 #[.string a1_0, .string a1_1, .slice A1_2 l1_2.length c1_2, .string a1_3, .slice A1_4 l1_4.length c1_4] 55 ?_; intro gb483 hg w23 hbox hb; have BK483 := Aside0.mk (hbox); have GW483 := Aside0.mk (ge_ hg (bw1_ HB GE482)); have GE483 := Aside0.mk (ge_ hg (bw1_ HB GE482)); replace HB := Aside0.mk (below_step (bw1_ HB GE482) hb); have NB482_483 := Aside0.mk ((by rw [hg]; exact Nat.ne_of_lt (blk_lt (bk_ BK482)) : gb482 ≠ gb483)); have NB483_482 := Aside0.mk ((by rw [hg]; exact Nat.ne_of_gt (blk_lt (bk_ BK482)) : gb483 ≠ gb482)); replace BK482 := Aside0.mk (blk_below (bk_ BK482) hb); clear hb hbox hg; have hnb24 := NB482_483.out; have hnc24 := NB483_482.out; have hcz25_0 := cz_ BK482 0 (.string a0_0); have hcz25_1 := cz_ BK482 1 (.string a0_1); have hcz25_2 := cz_ BK482 2 (.slice A0_2 l0_2.length c0_2); have hcz25_3 := cz_ BK482 3 (.string a0_3); have hcz25_4 := cz_ BK482 4 (.slice A0_4 l0_4.length c0_4); have hfz25_0 := blk_frozen BK482.out 0; have hfz25_1 := blk_frozen BK482.out 1; have hfz25_2 := blk_frozen BK482.out 2; have hfz25_3 := blk_frozen BK482.out 3; have hfz25_4 := blk_frozen BK482.out 4; have hcz26_0 := cz_ BK483 0 (.string a1_0); have hcz26_1 := cz_ BK483 1 (.string a1_1); have hcz26_2 := cz_ BK483 2 (.slice A1_2 l1_2.length c1_2); have hcz26_3 := cz_ BK483 3 (.string a1_3); have hcz26_4 := cz_ BK483 4 (.slice A1_4 l1_4.length c1_4); have hfz26_0 := blk_frozen BK483.out 0; have hfz26_1 := blk_frozen BK483.out 1; have hfz26_2 := blk_frozen BK483.out 2; have hfz26_3 := blk_frozen BK483.out 3; have hfz26_4 := blk_frozen BK483.out 4) | ((with_reducible refine gate_callee (f := 15) rfl ?_); refine gL_ (some 19) Tryz.func15 #[.slice A0_2 l0_2.length c0_2, .slice A1_2 l1_2.length c1_2] ?_; (with_reducible refine (laws_eqStringS.calls k _ _ l0_2 _ _ l1_2 true _ ?side1 ?side2 ?side3 ?side4 A5.out).mono ?_); (case side1 => exact cS_ HR0_2 HB); (case side2 => exact HC0_2.out); (case side3 => exact cS_ HR1_2 HB); (case side4 => exact HC1_2.out); rintro e w' ⟨rfl, ⟨nd, rfl⟩⟩; refine ⟨_, rfl, ?_⟩))
 go_ret
 exact ⟨eR_, bw2_ HB GE482 GE483⟩}}
 {
 replace c6 := Bool.eq_false_iff.mpr c6
 subst c6
 rw [if_neg (show ¬ (false = true) by decide)] at H
 obtain rfl := Option.some.inj H
 go_enter Tryz.func36, Tryz.ntmps36
 go_wp2_with (first | ((with_reducible refine gate_dst (N := 2) rfl ?_); refine bE_ 2 #[.string a0_0, .string a0_1, .slice A0_2 l0_2.length c0_2, .string a0_3, .slice A0_4 l0_4.length c0_4] 55 ?_; intro gb482 hg w27 hbox hb; have BK482 := Aside0.mk (hbox); have GW482 := Aside0.mk (ge_ hg (bw_ HB)); have GE482 := Aside0.mk (ge_ hg (bw_ HB)); replace HB := Aside0.mk (below_step (bw_ HB) hb); clear hb hbox hg) | ((with_reducible refine gate_dst (N := 3) rfl ?_); refine bE_ 3 #[.string a1_0, .string a1_1, .slice A1_2 l1_2.length c1_2, .string a1_3, .slice A1_4 l1_4.length c1_4] 55 ?_; intro gb483 hg w28 hbox hb; have BK483 := Aside0.mk (hbox); have GW483 := Aside0.mk (ge_ hg (bw1_ HB GE482)); have GE483 := Aside0.mk (ge_ hg (bw1_ HB GE482)); replace HB := Aside0.mk (below_step (bw1_ HB GE482) hb); have NB482_483 := Aside0.mk ((by rw [hg]; exact Nat.ne_of_lt (blk_lt (bk_ BK482)) : gb482 ≠ gb483)); have NB483_482 := Aside0.mk ((by rw [hg]; exact Nat.ne_of_gt (blk_lt (bk_ BK482)) : gb483 ≠ gb482)); replace BK482 := Aside0.mk (blk_below (bk_ BK482) hb); clear hb hbox hg; have hnb29 := NB482_483.out; have hnc29 := NB483_482.out; have hcz30_0 := cz_ BK482 0 (.string a0_0); have hcz30_1 := cz_ BK482 1 (.string a0_1); have hcz30_2 := cz_ BK482 2 (.slice A0_2 l0_2.length c0_2); have hcz30_3 := cz_ BK482 3 (.string a0_3); have hcz30_4 := cz_ BK482 4 (.slice A0_4 l0_4.length c0_4); have hfz30_0 := blk_frozen BK482.out 0; have hfz30_1 := blk_frozen BK482.out 1; have hfz30_2 := blk_frozen BK482.out 2; have hfz30_3 := blk_frozen BK482.out 3; have hfz30_4 := blk_frozen BK482.out 4; have hcz31_0 := cz_ BK483 0 (.string a1_0); have hcz31_1 := cz_ BK483 1 (.string a1_1); have hcz31_2 := cz_ BK483 2 (.slice A1_2 l1_2.length c1_2); have hcz31_3 := cz_ BK483 3 (.string a1_3); have hcz31_4 := cz_ BK483 4 (.slice A1_4 l1_4.length c1_4); have hfz31_0 := blk_frozen BK483.out 0; have hfz31_1 := blk_frozen BK483.out 1; have hfz31_2 := blk_frozen BK483.out 2; have hfz31_3 := blk_frozen BK483.out 3; have hfz31_4 := blk_frozen BK483.out 4) | ((with_reducible refine gate_callee (f := 15) rfl ?_); refine gL_ (some 19) Tryz.func15 #[.slice A0_2 l0_2.length c0_2, .slice A1_2 l1_2.length c1_2] ?_; (with_reducible refine (laws_eqStringS.calls k _ _ l0_2 _ _ l1_2 false _ ?side1 ?side2 ?side3 ?side4 A5.out).mono ?_); (case side1 => exact cS_ HR0_2 HB); (case side2 => exact HC0_2.out); (case side3 => exact cS_ HR1_2 HB); (case side4 => exact HC1_2.out); rintro e w' ⟨rfl, ⟨nd, rfl⟩⟩; refine ⟨_, rfl, ?_⟩))
 go_ret
 exact ⟨eR_, bw2_ HB GE482 GE483⟩}}
 {
 rw [if_neg c4] at H
 have c4b0 : (a0_1.toList == a1_1.toList) = false := beq_eq_false_iff_ne.mpr c4
 have c4b1 : (a0_1.toList != a1_1.toList) = true := bne_iff_ne.mpr c4
 obtain rfl := Option.some.inj H
 go_enter Tryz.func36, Tryz.ntmps36
 go_wp2_with (first | ((with_reducible refine gate_dst (N := 2) rfl ?_); refine bE_ 2 #[.string a0_0, .string a0_1, .slice A0_2 l0_2.length c0_2, .string a0_3, .slice A0_4 l0_4.length c0_4] 55 ?_; intro gb482 hg w32 hbox hb; have BK482 := Aside0.mk (hbox); have GW482 := Aside0.mk (ge_ hg (bw_ HB)); have GE482 := Aside0.mk (ge_ hg (bw_ HB)); replace HB := Aside0.mk (below_step (bw_ HB) hb); clear hb hbox hg) | ((with_reducible refine gate_dst (N := 3) rfl ?_); refine bE_ 3 #[.string a1_0, .string a1_1, .slice A1_2 l1_2.length c1_2, .string a1_3, .slice A1_4 l1_4.length c1_4] 55 ?_; intro gb483 hg w33 hbox hb; have BK483 := Aside0.mk (hbox); have GW483 := Aside0.mk (ge_ hg (bw1_ HB GE482)); have GE483 := Aside0.mk (ge_ hg (bw1_ HB GE482)); replace HB := Aside0.mk (below_step (bw1_ HB GE482) hb); have NB482_483 := Aside0.mk ((by rw [hg]; exact Nat.ne_of_lt (blk_lt (bk_ BK482)) : gb482 ≠ gb483)); have NB483_482 := Aside0.mk ((by rw [hg]; exact Nat.ne_of_gt (blk_lt (bk_ BK482)) : gb483 ≠ gb482)); replace BK482 := Aside0.mk (blk_below (bk_ BK482) hb); clear hb hbox hg; have hnb34 := NB482_483.out; have hnc34 := NB483_482.out; have hcz35_0 := cz_ BK482 0 (.string a0_0); have hcz35_1 := cz_ BK482 1 (.string a0_1); have hcz35_2 := cz_ BK482 2 (.slice A0_2 l0_2.length c0_2); have hcz35_3 := cz_ BK482 3 (.string a0_3); have hcz35_4 := cz_ BK482 4 (.slice A0_4 l0_4.length c0_4); have hfz35_0 := blk_frozen BK482.out 0; have hfz35_1 := blk_frozen BK482.out 1; have hfz35_2 := blk_frozen BK482.out 2; have hfz35_3 := blk_frozen BK482.out 3; have hfz35_4 := blk_frozen BK482.out 4; have hcz36_0 := cz_ BK483 0 (.string a1_0); have hcz36_1 := cz_ BK483 1 (.string a1_1); have hcz36_2 := cz_ BK483 2 (.slice A1_2 l1_2.length c1_2); have hcz36_3 := cz_ BK483 3 (.string a1_3); have hcz36_4 := cz_ BK483 4 (.slice A1_4 l1_4.length c1_4); have hfz36_0 := blk_frozen BK483.out 0; have hfz36_1 := blk_frozen BK483.out 1; have hfz36_2 := blk_frozen BK483.out 2; have hfz36_3 := blk_frozen BK483.out 3; have hfz36_4 := blk_frozen BK483.out 4))
 go_ret
 exact ⟨eR_, bw2_ HB GE482 GE483⟩}}
 {
 rw [if_neg c3] at H
 have c3b0 : (a0_0.toList == a1_0.toList) = false := beq_eq_false_iff_ne.mpr c3
 have c3b1 : (a0_0.toList != a1_0.toList) = true := bne_iff_ne.mpr c3
 obtain rfl := Option.some.inj H
 go_enter Tryz.func36, Tryz.ntmps36
 go_wp2_with (first | ((with_reducible refine gate_dst (N := 2) rfl ?_); refine bE_ 2 #[.string a0_0, .string a0_1, .slice A0_2 l0_2.length c0_2, .string a0_3, .slice A0_4 l0_4.length c0_4] 55 ?_; intro gb482 hg w37 hbox hb; have BK482 := Aside0.mk (hbox); have GW482 := Aside0.mk (ge_ hg (bw_ HB)); have GE482 := Aside0.mk (ge_ hg (bw_ HB)); replace HB := Aside0.mk (below_step (bw_ HB) hb); clear hb hbox hg) | ((with_reducible refine gate_dst (N := 3) rfl ?_); refine bE_ 3 #[.string a1_0, .string a1_1, .slice A1_2 l1_2.length c1_2, .string a1_3, .slice A1_4 l1_4.length c1_4] 55 ?_; intro gb483 hg w38 hbox hb; have BK483 := Aside0.mk (hbox); have GW483 := Aside0.mk (ge_ hg (bw1_ HB GE482)); have GE483 := Aside0.mk (ge_ hg (bw1_ HB GE482)); replace HB := Aside0.mk (below_step (bw1_ HB GE482) hb); have NB482_483 := Aside0.mk ((by rw [hg]; exact Nat.ne_of_lt (blk_lt (bk_ BK482)) : gb482 ≠ gb483)); have NB483_482 := Aside0.mk ((by rw [hg]; exact Nat.ne_of_gt (blk_lt (bk_ BK482)) : gb483 ≠ gb482)); replace BK482 := Aside0.mk (blk_below (bk_ BK482) hb); clear hb hbox hg; have hnb39 := NB482_483.out; have hnc39 := NB483_482.out; have hcz40_0 := cz_ BK482 0 (.string a0_0); have hcz40_1 := cz_ BK482 1 (.string a0_1); have hcz40_2 := cz_ BK482 2 (.slice A0_2 l0_2.length c0_2); have hcz40_3 := cz_ BK482 3 (.string a0_3); have hcz40_4 := cz_ BK482 4 (.slice A0_4 l0_4.length c0_4); have hfz40_0 := blk_frozen BK482.out 0; have hfz40_1 := blk_frozen BK482.out 1; have hfz40_2 := blk_frozen BK482.out 2; have hfz40_3 := blk_frozen BK482.out 3; have hfz40_4 := blk_frozen BK482.out 4; have hcz41_0 := cz_ BK483 0 (.string a1_0); have hcz41_1 := cz_ BK483 1 (.string a1_1); have hcz41_2 := cz_ BK483 2 (.slice A1_2 l1_2.length c1_2); have hcz41_3 := cz_ BK483 3 (.string a1_3); have hcz41_4 := cz_ BK483 4 (.slice A1_4 l1_4.length c1_4); have hfz41_0 := blk_frozen BK483.out 0; have hfz41_1 := blk_frozen BK483.out 1; have hfz41_2 := blk_frozen BK483.out 2; have hfz41_3 := blk_frozen BK483.out 3; have hfz41_4 := blk_frozen BK483.out 4))
 go_ret
 exact ⟨eR_, bw2_ HB GE482 GE483⟩
}
def laws_eqItemS.l0 : Nat → List (S55) → List (S55) → Int → Option (Bool)
 | 0, _, _, _ => none
 | k + 1, x0, x1, x5 => if x5 < (x0.length : Int) then (if 0 ≤ x5 then (if x5 < (x1.length : Int) then ((laws_eqItem.f k ((rd_T55 x0 x5).f0) ((rd_T55 x0 x5).f1) ((rd_T55 x0 x5).f2) ((rd_T55 x0 x5).f3) ((rd_T55 x0 x5).f4) ((rd_T55 x1 x5).f0) ((rd_T55 x1 x5).f1) ((rd_T55 x1 x5).f2) ((rd_T55 x1 x5).f3) ((rd_T55 x1 x5).f4)).bind fun t488 => (if t488 = true then (laws_eqItemS.l0 k x0 x1 (wrap64 (x5 + 1))) else (some false))) else (none)) else (none)) else (some true)
def laws_eqItemS.f (k : Nat) (l0 : List (S55)) (l1 : List (S55)) : Option (Bool) := if (l0.length : Int) = (l1.length : Int) then (laws_eqItemS.l0 k l0 l1 0) else (some false)
def laws_eqItemS.T6 : Bool × List (List Nat × List Nat) := (true, [([], []), ([], []), ([0, 1], [0, 1]), ([2], [2]), ([], []), ([], []), ([4, 5], [4, 5]), ([6], [6]), ([3, 7], [3, 7]), ([8], [8])])
def laws_eqItemS.B6 : List Nat := [0, 0, 3, 7, 0, 0, 48, 112, 255, 511]
theorem laws_eqItemS.tab6 : rtab .any (opsOf Tryz.f12 6) = laws_eqItemS.T6 := by kernel_rfl
theorem laws_eqItemS.bits6 : waitsOk laws_eqItemS.T6.2 laws_eqItemS.B6 = true := by kernel_rfl
theorem laws_eqItemS.calls (k : Nat) (A0 : Option Addr) (c0 : Nat) (l0 : List (S55)) (A1 : Option Addr) (c1 : Nat) (l1 : List (S55)) (r : Bool) (w : World) (hr0 : Kd.C k55 w A0 l0.length l0) (hc0 : l0.length ≤ c0) (hr1 : Kd.C k55 w A1 l1.length l1) (hc1 : l1.length ≤ c1) (h : laws_eqItemS.f k l0 l1 = some r) :
 Calls Tryz.prog 12 #[.slice A0 l0.length c0, .slice A1 l1.length c1] w fun e w' => e = .returned (.bool r) ∧ Below w.heap.size w w' := by
 have hu55 := Tryz.underlying55
 have HR0 := Aside0.mk hr0
 have HC0 := Aside0.mk hc0
 clear hr0 hc0
 have HR1 := Aside0.mk hr1
 have HC1 := Aside0.mk hc1
 clear hr1 hc1
 have HB := Aside0.mk (Below.refl w.heap.size w)
 have H : (if (l0.length : Int) = (l1.length : Int) then (laws_eqItemS.l0 k l0 l1 0) else (some false)) = some r := h
 clear h
 by_cases c3 : (l0.length : Int) = (l1.length : Int)
 {
 rw [if_pos c3] at H
 have c3b0 : ((l0.length : Int) == (l1.length : Int)) = true := beq_iff_eq.mpr c3
 have c3b1 : ((l0.length : Int) != (l1.length : Int)) = false := bne_eq_false_iff_eq.mpr c3
 have c3b2 : (l0.length == l1.length) = true := by first | simpa using c3 | (simp at c3 ⊢; omega)
 clear c3
 have H' := Aside0.mk H
 clear H
 go_enter Tryz.func12, Tryz.ntmps12
 go_wp2
 go_loopg [5] k (fun kq v5 w' => ∃ (x5_1 : Int), v5 = .int .i64 x5_1 ∧ Aside0 (laws_eqItemS.l0 kq l0 l1 x5_1 = some r) ∧ Aside0 (kq ≤ k) ∧ Aside0 (Below w.heap.size w w'))
 case atStart => exact ⟨(0), (by first | rfl | (simp; done) | (simp [*]; done)), H', ⟨Nat.le_refl _⟩, ⟨bw_ HB⟩⟩
 case round =>
  clear H'
  try clear c1
  try clear p2
  try clear c3
  try clear c3b0
  try clear c3b1
  try clear c3b2
  obtain ⟨x5_1, rfl, HA, HK1, HB⟩ := hrel
  cases gk with
  | zero => exact absurd HA.out (by simp [laws_eqItemS.l0])
  | succ k1 =>
       have H := HA.out
       clear HA
       simp only [laws_eqItemS.l0] at H
       by_cases c4 : x5_1 < (l0.length : Int)
       {
       rw [if_pos c4] at H
       have c4b0 := decide_eq_true c4
       clear c4
       by_cases c5 : 0 ≤ x5_1
       {
       rw [if_pos c5] at H
       have c5b0 := decide_eq_true c5
       clear c5
       by_cases c6 : x5_1 < (l1.length : Int)
       {
       rw [if_pos c6] at H
       have c6b0 := decide_eq_true c6
       clear c6
       replace H := Option.bind_eq_some_iff.mp H
       obtain ⟨t488, A70, H⟩ := H
       have A7 := Aside0.mk A70
       clear A70
       by_cases c8 : t488 = true
       {
       subst c8
       rw [if_pos rfl] at H
       have H' := Aside0.mk H
       clear H
       try go_wp2
       replace HB := Aside0.mk (below_drew1 HB.out)
       have p486 : 0 ≤ (x5_1 : Int) := dA_
       have q486 : x5_1 < (l0.length : Int) := dA_
       obtain ⟨ad486, A486_2, c486_2, A486_4, c486_4, e486, hx486_0, hx486_1, hx486_2, hx486_3, hx486_4, hl486_2, hi486_2, hl486_4, hi486_4⟩ := at_T55 HR0.out x5_1 p486 q486
       have hw486_4 := hx486_4
       have hw486_3 := hx486_3
       have hw486_2 := hx486_2
       have hw486_1 := hx486_1
       have hw486_0 := hx486_0
       cases e486
       replace hx486_0 := hX_ HB hx486_0
       replace hx486_1 := hX_ HB hx486_1
       replace hx486_2 := hX_ HB hx486_2
       replace hx486_3 := hX_ HB hx486_3
       replace hx486_4 := hX_ HB hx486_4
       have HR486_2 := Aside0.mk hi486_2
       have HC486_2 := Aside0.mk hl486_2
       clear hi486_2 hl486_2
       have HR486_4 := Aside0.mk hi486_4
       have HC486_4 := Aside0.mk hl486_4
       clear hi486_4 hl486_4
       replace p486 := eq_true p486
       replace q486 := eq_true q486
       have p487 : 0 ≤ (x5_1 : Int) := dA_
       have q487 : x5_1 < (l1.length : Int) := dA_
       obtain ⟨ad487, A487_2, c487_2, A487_4, c487_4, e487, hx487_0, hx487_1, hx487_2, hx487_3, hx487_4, hl487_2, hi487_2, hl487_4, hi487_4⟩ := at_T55 HR1.out x5_1 p487 q487
       have hw487_4 := hx487_4
       have hw487_3 := hx487_3
       have hw487_2 := hx487_2
       have hw487_1 := hx487_1
       have hw487_0 := hx487_0
       cases e487
       replace hx487_0 := hX_ HB hx487_0
       replace hx487_1 := hX_ HB hx487_1
       replace hx487_2 := hX_ HB hx487_2
       replace hx487_3 := hX_ HB hx487_3
       replace hx487_4 := hX_ HB hx487_4
       have HR487_2 := Aside0.mk hi487_2
       have HC487_2 := Aside0.mk hl487_2
       clear hi487_2 hl487_2
       have HR487_4 := Aside0.mk hi487_4
       have HC487_4 := Aside0.mk hl487_4
       clear hi487_4 hl487_4
       replace p487 := eq_true p487
       replace q487 := eq_true q487
       refine start_ (n := 10) (S := fun w' => w'.cell? (ad486.add ((x5_1).toNat * 5)) = some (.string ((rd_T55 l0 x5_1).f0)) ∧ w'.cell? ⟨(ad486.add ((x5_1).toNat * 5)).block, (ad486.add ((x5_1).toNat * 5)).off + 1, none⟩ = some (.string ((rd_T55 l0 x5_1).f1)) ∧ w'.cell? ⟨(ad486.add ((x5_1).toNat * 5)).block, (ad486.add ((x5_1).toNat * 5)).off + 2, none⟩ = some (.slice A486_2 ((rd_T55 l0 x5_1).f2).length c486_2) ∧ w'.cell? ⟨(ad486.add ((x5_1).toNat * 5)).block, (ad486.add ((x5_1).toNat * 5)).off + 3, none⟩ = some (.string ((rd_T55 l0 x5_1).f3)) ∧ w'.cell? ⟨(ad486.add ((x5_1).toNat * 5)).block, (ad486.add ((x5_1).toNat * 5)).off + 4, none⟩ = some (.slice A486_4 ((rd_T55 l0 x5_1).f4).length c486_4) ∧ w'.cell? (ad487.add ((x5_1).toNat * 5)) = some (.string ((rd_T55 l1 x5_1).f0)) ∧ w'.cell? ⟨(ad487.add ((x5_1).toNat * 5)).block, (ad487.add ((x5_1).toNat * 5)).off + 1, none⟩ = some (.string ((rd_T55 l1 x5_1).f1)) ∧ w'.cell? ⟨(ad487.add ((x5_1).toNat * 5)).block, (ad487.add ((x5_1).toNat * 5)).off + 2, none⟩ = some (.slice A487_2 ((rd_T55 l1 x5_1).f2).length c487_2) ∧ w'.cell? ⟨(ad487.add ((x5_1).toNat * 5)).block, (ad487.add ((x5_1).toNat * 5)).off + 3, none⟩ = some (.string ((rd_T55 l1 x5_1).f3)) ∧ w'.cell? ⟨(ad487.add ((x5_1).toNat * 5)).block, (ad487.add ((x5_1).toNat * 5)).off + 4, none⟩ = some (.slice A487_4 ((rd_T55 l1 x5_1).f4).length c487_4)) (ds := []) (bs_ 10 0) (by kernel_rfl) rfl (by kernel_rfl) ⟨((HB.out.cell (World.block_lt_of_cell? w _ hw486_0)).trans hw486_0), ((HB.out.cell (World.block_lt_of_cell? w _ hw486_1)).trans hw486_1), ((HB.out.cell (World.block_lt_of_cell? w _ hw486_2)).trans hw486_2), ((HB.out.cell (World.block_lt_of_cell? w _ hw486_3)).trans hw486_3), ((HB.out.cell (World.block_lt_of_cell? w _ hw486_4)).trans hw486_4), ((HB.out.cell (World.block_lt_of_cell? w _ hw487_0)).trans hw487_0), ((HB.out.cell (World.block_lt_of_cell? w _ hw487_1)).trans hw487_1), ((HB.out.cell (World.block_lt_of_cell? w _ hw487_2)).trans hw487_2), ((HB.out.cell (World.block_lt_of_cell? w _ hw487_3)).trans hw487_3), ((HB.out.cell (World.block_lt_of_cell? w _ hw487_4)).trans hw487_4)⟩ (fun hHeld => ?_); refine with_tabW laws_eqItemS.tab6 laws_eqItemS.bits6 (fun HT_ HW_ => ?_)
       generalize wr.drew = w9 at HB HR486_2 HR486_4 HR487_2 HR487_4 hx486_0 hx486_1 hx486_2 hx486_3 hx486_4 hx487_0 hx487_1 hx487_2 hx487_3 hx487_4 hHeld ⊢
       refine pS_ 0 ?_
       refine pS_ 1 ?_
       refine pS_ 2 ?_
       refine pS_ 4 ?_
       refine pS_ 5 ?_
       refine pS_ 6 ?_
       refine t10_ 3 hHeld ?_
       refine t10_ 7 hHeld ?_
       refine oS_ 8 (fun K hK => ?_)
       refine gS_ Tryz.func36 #[.agg #[.string ((rd_T55 l0 x5_1).f0), .string ((rd_T55 l0 x5_1).f1), .slice A486_2 ((rd_T55 l0 x5_1).f2).length c486_2, .string ((rd_T55 l0 x5_1).f3), .slice A486_4 ((rd_T55 l0 x5_1).f4).length c486_4], .agg #[.string ((rd_T55 l1 x5_1).f0), .string ((rd_T55 l1 x5_1).f1), .slice A487_2 ((rd_T55 l1 x5_1).f2).length c487_2, .string ((rd_T55 l1 x5_1).f3), .slice A487_4 ((rd_T55 l1 x5_1).f4).length c487_4]] ?_
       with_reducible refine (laws_eqItem.calls k1 ((rd_T55 l0 x5_1).f0) ((rd_T55 l0 x5_1).f1) _ _ ((rd_T55 l0 x5_1).f2) ((rd_T55 l0 x5_1).f3) _ _ ((rd_T55 l0 x5_1).f4) ((rd_T55 l1 x5_1).f0) ((rd_T55 l1 x5_1).f1) _ _ ((rd_T55 l1 x5_1).f2) ((rd_T55 l1 x5_1).f3) _ _ ((rd_T55 l1 x5_1).f4) true _ ?side1 ?side2 ?side3 ?side4 ?side5 ?side6 ?side7 ?side8 A7.out).mono ?_
       (case side1 => exact cS_ HR486_2 HB)
       (case side2 => exact HC486_2.out)
       (case side3 => exact cS_ HR486_4 HB)
       (case side4 => exact HC486_4.out)
       (case side5 => exact cS_ HR487_2 HB)
       (case side6 => exact HC487_2.out)
       (case side7 => exact cS_ HR487_4 HB)
       (case side8 => exact HC487_4.out)
       rintro e w10 ⟨rfl, hb⟩
       refine ⟨_, rfl, ?_⟩
       replace HB := Aside0.mk (below_step (bw_ HB) hb)
       (try clear hb)
       (try clear hb2)
       (try clear hk)
       (try clear hi)
       refine hK.out _ _ ⟨((HB.out.cell (World.block_lt_of_cell? w _ hw486_0)).trans hw486_0), ((HB.out.cell (World.block_lt_of_cell? w _ hw486_1)).trans hw486_1), ((HB.out.cell (World.block_lt_of_cell? w _ hw486_2)).trans hw486_2), ((HB.out.cell (World.block_lt_of_cell? w _ hw486_3)).trans hw486_3), ((HB.out.cell (World.block_lt_of_cell? w _ hw486_4)).trans hw486_4), ((HB.out.cell (World.block_lt_of_cell? w _ hw487_0)).trans hw487_0), ((HB.out.cell (World.block_lt_of_cell? w _ hw487_1)).trans hw487_1), ((HB.out.cell (World.block_lt_of_cell? w _ hw487_2)).trans hw487_2), ((HB.out.cell (World.block_lt_of_cell? w _ hw487_3)).trans hw487_3), ((HB.out.cell (World.block_lt_of_cell? w _ hw487_4)).trans hw487_4)⟩ (fun hHeld => ?_)
       clear hK K
       refine nS_ 25 ?_
       refine pS_ 9 ?_
       refine done_ (done_of HT_.out (by kernel_rfl)) ?_
       try go_wp2
       go_roundg k1
       case measure => have := HK1.out; omega
       case rel => exact ⟨(wrap64 (x5_1 + 1)), (by first | rfl | (simp; done) | (simp [*]; done)), H', ⟨by have := HK1.out; omega⟩, ⟨bw_ HB⟩⟩}
       {
       replace c8 := Bool.eq_false_iff.mpr c8
       subst c8
       rw [if_neg (show ¬ (false = true) by decide)] at H
       obtain rfl := Option.some.inj H
       try go_wp2
       replace HB := Aside0.mk (below_drew1 HB.out)
       have p486 : 0 ≤ (x5_1 : Int) := dA_
       have q486 : x5_1 < (l0.length : Int) := dA_
       obtain ⟨ad486, A486_2, c486_2, A486_4, c486_4, e486, hx486_0, hx486_1, hx486_2, hx486_3, hx486_4, hl486_2, hi486_2, hl486_4, hi486_4⟩ := at_T55 HR0.out x5_1 p486 q486
       have hw486_4 := hx486_4
       have hw486_3 := hx486_3
       have hw486_2 := hx486_2
       have hw486_1 := hx486_1
       have hw486_0 := hx486_0
       cases e486
       replace hx486_0 := hX_ HB hx486_0
       replace hx486_1 := hX_ HB hx486_1
       replace hx486_2 := hX_ HB hx486_2
       replace hx486_3 := hX_ HB hx486_3
       replace hx486_4 := hX_ HB hx486_4
       have HR486_2 := Aside0.mk hi486_2
       have HC486_2 := Aside0.mk hl486_2
       clear hi486_2 hl486_2
       have HR486_4 := Aside0.mk hi486_4
       have HC486_4 := Aside0.mk hl486_4
       clear hi486_4 hl486_4
       replace p486 := eq_true p486
       replace q486 := eq_true q486
       have p487 : 0 ≤ (x5_1 : Int) := dA_
       have q487 : x5_1 < (l1.length : Int) := dA_
       obtain ⟨ad487, A487_2, c487_2, A487_4, c487_4, e487, hx487_0, hx487_1, hx487_2, hx487_3, hx487_4, hl487_2, hi487_2, hl487_4, hi487_4⟩ := at_T55 HR1.out x5_1 p487 q487
       have hw487_4 := hx487_4
       have hw487_3 := hx487_3
       have hw487_2 := hx487_2
       have hw487_1 := hx487_1
       have hw487_0 := hx487_0
       cases e487
       replace hx487_0 := hX_ HB hx487_0
       replace hx487_1 := hX_ HB hx487_1
       replace hx487_2 := hX_ HB hx487_2
       replace hx487_3 := hX_ HB hx487_3
       replace hx487_4 := hX_ HB hx487_4
       have HR487_2 := Aside0.mk hi487_2
       have HC487_2 := Aside0.mk hl487_2
       clear hi487_2 hl487_2
       have HR487_4 := Aside0.mk hi487_4
       have HC487_4 := Aside0.mk hl487_4
       clear hi487_4 hl487_4
       replace p487 := eq_true p487
       replace q487 := eq_true q487
       refine start_ (n := 10) (S := fun w' => w'.cell? (ad486.add ((x5_1).toNat * 5)) = some (.string ((rd_T55 l0 x5_1).f0)) ∧ w'.cell? ⟨(ad486.add ((x5_1).toNat * 5)).block, (ad486.add ((x5_1).toNat * 5)).off + 1, none⟩ = some (.string ((rd_T55 l0 x5_1).f1)) ∧ w'.cell? ⟨(ad486.add ((x5_1).toNat * 5)).block, (ad486.add ((x5_1).toNat * 5)).off + 2, none⟩ = some (.slice A486_2 ((rd_T55 l0 x5_1).f2).length c486_2) ∧ w'.cell? ⟨(ad486.add ((x5_1).toNat * 5)).block, (ad486.add ((x5_1).toNat * 5)).off + 3, none⟩ = some (.string ((rd_T55 l0 x5_1).f3)) ∧ w'.cell? ⟨(ad486.add ((x5_1).toNat * 5)).block, (ad486.add ((x5_1).toNat * 5)).off + 4, none⟩ = some (.slice A486_4 ((rd_T55 l0 x5_1).f4).length c486_4) ∧ w'.cell? (ad487.add ((x5_1).toNat * 5)) = some (.string ((rd_T55 l1 x5_1).f0)) ∧ w'.cell? ⟨(ad487.add ((x5_1).toNat * 5)).block, (ad487.add ((x5_1).toNat * 5)).off + 1, none⟩ = some (.string ((rd_T55 l1 x5_1).f1)) ∧ w'.cell? ⟨(ad487.add ((x5_1).toNat * 5)).block, (ad487.add ((x5_1).toNat * 5)).off + 2, none⟩ = some (.slice A487_2 ((rd_T55 l1 x5_1).f2).length c487_2) ∧ w'.cell? ⟨(ad487.add ((x5_1).toNat * 5)).block, (ad487.add ((x5_1).toNat * 5)).off + 3, none⟩ = some (.string ((rd_T55 l1 x5_1).f3)) ∧ w'.cell? ⟨(ad487.add ((x5_1).toNat * 5)).block, (ad487.add ((x5_1).toNat * 5)).off + 4, none⟩ = some (.slice A487_4 ((rd_T55 l1 x5_1).f4).length c487_4)) (ds := []) (bs_ 10 0) (by kernel_rfl) rfl (by kernel_rfl) ⟨((HB.out.cell (World.block_lt_of_cell? w _ hw486_0)).trans hw486_0), ((HB.out.cell (World.block_lt_of_cell? w _ hw486_1)).trans hw486_1), ((HB.out.cell (World.block_lt_of_cell? w _ hw486_2)).trans hw486_2), ((HB.out.cell (World.block_lt_of_cell? w _ hw486_3)).trans hw486_3), ((HB.out.cell (World.block_lt_of_cell? w _ hw486_4)).trans hw486_4), ((HB.out.cell (World.block_lt_of_cell? w _ hw487_0)).trans hw487_0), ((HB.out.cell (World.block_lt_of_cell? w _ hw487_1)).trans hw487_1), ((HB.out.cell (World.block_lt_of_cell? w _ hw487_2)).trans hw487_2), ((HB.out.cell (World.block_lt_of_cell? w _ hw487_3)).trans hw487_3), ((HB.out.cell (World.block_lt_of_cell? w _ hw487_4)).trans hw487_4)⟩ (fun hHeld => ?_); refine with_tabW laws_eqItemS.tab6 laws_eqItemS.bits6 (fun HT_ HW_ => ?_)
       generalize wr.drew = w11 at HB HR486_2 HR486_4 HR487_2 HR487_4 hx486_0 hx486_1 hx486_2 hx486_3 hx486_4 hx487_0 hx487_1 hx487_2 hx487_3 hx487_4 hHeld ⊢
       refine pS_ 0 ?_
       refine pS_ 1 ?_
       refine pS_ 2 ?_
       refine pS_ 4 ?_
       refine pS_ 5 ?_
       refine pS_ 6 ?_
       refine t10_ 3 hHeld ?_
       refine t10_ 7 hHeld ?_
       refine oS_ 8 (fun K hK => ?_)
       refine gS_ Tryz.func36 #[.agg #[.string ((rd_T55 l0 x5_1).f0), .string ((rd_T55 l0 x5_1).f1), .slice A486_2 ((rd_T55 l0 x5_1).f2).length c486_2, .string ((rd_T55 l0 x5_1).f3), .slice A486_4 ((rd_T55 l0 x5_1).f4).length c486_4], .agg #[.string ((rd_T55 l1 x5_1).f0), .string ((rd_T55 l1 x5_1).f1), .slice A487_2 ((rd_T55 l1 x5_1).f2).length c487_2, .string ((rd_T55 l1 x5_1).f3), .slice A487_4 ((rd_T55 l1 x5_1).f4).length c487_4]] ?_
       with_reducible refine (laws_eqItem.calls k1 ((rd_T55 l0 x5_1).f0) ((rd_T55 l0 x5_1).f1) _ _ ((rd_T55 l0 x5_1).f2) ((rd_T55 l0 x5_1).f3) _ _ ((rd_T55 l0 x5_1).f4) ((rd_T55 l1 x5_1).f0) ((rd_T55 l1 x5_1).f1) _ _ ((rd_T55 l1 x5_1).f2) ((rd_T55 l1 x5_1).f3) _ _ ((rd_T55 l1 x5_1).f4) false _ ?side1 ?side2 ?side3 ?side4 ?side5 ?side6 ?side7 ?side8 A7.out).mono ?_
       (case side1 => exact cS_ HR486_2 HB)
       (case side2 => exact HC486_2.out)
       (case side3 => exact cS_ HR486_4 HB)
       (case side4 => exact HC486_4.out)
       (case side5 => exact cS_ HR487_2 HB)
       (case side6 => exact HC487_2.out)
       (case side7 => exact cS_ HR487_4 HB)
       (case side8 => exact HC487_4.out)
       rintro e w12 ⟨rfl, hb⟩
       refine ⟨_, rfl, ?_⟩
       replace HB := Aside0.mk (below_step (bw_ HB) hb)
       (try clear hb)
       (try clear hb2)
       (try clear hk)
       (try clear hi)
       refine hK.out _ _ ⟨((HB.out.cell (World.block_lt_of_cell? w _ hw486_0)).trans hw486_0), ((HB.out.cell (World.block_lt_of_cell? w _ hw486_1)).trans hw486_1), ((HB.out.cell (World.block_lt_of_cell? w _ hw486_2)).trans hw486_2), ((HB.out.cell (World.block_lt_of_cell? w _ hw486_3)).trans hw486_3), ((HB.out.cell (World.block_lt_of_cell? w _ hw486_4)).trans hw486_4), ((HB.out.cell (World.block_lt_of_cell? w _ hw487_0)).trans hw487_0), ((HB.out.cell (World.block_lt_of_cell? w _ hw487_1)).trans hw487_1), ((HB.out.cell (World.block_lt_of_cell? w _ hw487_2)).trans hw487_2), ((HB.out.cell (World.block_lt_of_cell? w _ hw487_3)).trans hw487_3), ((HB.out.cell (World.block_lt_of_cell? w _ hw487_4)).trans hw487_4)⟩ (fun hHeld => ?_)
       clear hK K
       refine nS_ 25 ?_
       refine pS_ 9 ?_
       refine done_ (done_of HT_.out (by kernel_rfl)) ?_
       try go_wp2
       go_ret
       exact ⟨eR_, bw_ HB⟩}}
       {
       rw [if_neg c6] at H
       exact absurd H (by simp)}}
       {
       rw [if_neg c5] at H
       exact absurd H (by simp)}}
       {
       rw [if_neg c4] at H
       have c4b0 := decide_eq_false c4
       (try (have c4b0' := c4b0; simp only [hl487_4] at c4b0'))
       clear c4
       obtain rfl := Option.some.inj H
       go_wp2
       go_ret
       exact ⟨eR_, bw_ HB⟩}}
 {
 rw [if_neg c3] at H
 have c3b0 : ((l0.length : Int) == (l1.length : Int)) = false := beq_eq_false_iff_ne.mpr c3
 have c3b1 : ((l0.length : Int) != (l1.length : Int)) = true := bne_iff_ne.mpr c3
 have c3b2 : (l0.length == l1.length) = false := by first | simpa using c3 | (simp at c3 ⊢; omega)
 obtain rfl := Option.some.inj H
 go_enter Tryz.func12, Tryz.ntmps12
 go_wp2
 go_ret
 exact ⟨eR_, bw_ HB⟩
}
def spec_l12Find.l0 : Nat → List (S55) → ByteArray → Int → Option (Int)
 | 0, _, _, _ => none
 | k + 1, x0, x1, x5 => if x5 < (x0.length : Int) then (if 0 ≤ x5 then (if ((rd_T55 x0 x5).f0).toList = x1.toList then (some x5) else (spec_l12Find.l0 k x0 x1 (wrap64 (x5 + 1)))) else (none)) else (some (-1))
def spec_l12Find.f (k : Nat) (l0 : List (S55)) (a1 : ByteArray) : Option (Int) := spec_l12Find.l0 k l0 a1 0
theorem spec_l12Find.calls (k : Nat) (A0 : Option Addr) (c0 : Nat) (l0 : List (S55)) (a1 : ByteArray) (r : Int) (w : World) (hr0 : Kd.C k55 w A0 l0.length l0) (hc0 : l0.length ≤ c0) (h : spec_l12Find.f k l0 a1 = some r) :
 Calls Tryz.prog 37 #[.slice A0 l0.length c0, .string a1] w fun e w' => e = .returned (.int .i64 r) ∧ Drawn0 w w' := by
 have HR0 := Aside0.mk hr0
 have HC0 := Aside0.mk hc0
 clear hr0 hc0
 have H : (spec_l12Find.l0 k l0 a1 0) = some r := h
 clear h
 have H' := Aside0.mk H
 clear H
 go_enter Tryz.func37, Tryz.ntmps37
 go_wp2
 go_loopg [5] k (fun kq v5 w' => ∃ (x5_1 : Int), v5 = .int .i64 x5_1 ∧ Aside0 (spec_l12Find.l0 kq l0 a1 x5_1 = some r) ∧ Aside0 (kq ≤ k) ∧ Drawn0 w w')
 case atStart => exact ⟨(0), (by first | rfl | (simp; done) | (simp [*]; done)), H', ⟨Nat.le_refl _⟩, dR_⟩
 case round =>
  clear H'
  try clear p2
  obtain ⟨x5_1, rfl, HA, HK1, ⟨m1, rfl⟩⟩ := hrel
  cases gk with
  | zero => exact absurd HA.out (by simp [spec_l12Find.l0])
  | succ k1 =>
       have H := HA.out
       clear HA
       simp only [spec_l12Find.l0] at H
       by_cases c3 : x5_1 < (l0.length : Int)
       {
       rw [if_pos c3] at H
       have c3b0 := decide_eq_true c3
       clear c3
       by_cases c4 : 0 ≤ x5_1
       {
       rw [if_pos c4] at H
       have c4b0 := decide_eq_true c4
       clear c4
       by_cases c5 : ((rd_T55 l0 x5_1).f0).toList = a1.toList
       {
       rw [if_pos c5] at H
       have c5b0 : (((rd_T55 l0 x5_1).f0).toList == a1.toList) = true := beq_iff_eq.mpr c5
       have c5b1 : (((rd_T55 l0 x5_1).f0).toList != a1.toList) = false := bne_eq_false_iff_eq.mpr c5
       clear c5
       obtain rfl := Option.some.inj H
       have p502 : 0 ≤ (x5_1 : Int) := dA_
       have q502 : x5_1 < (l0.length : Int) := dA_
       obtain ⟨ad502, A502_2, c502_2, A502_4, c502_4, e502, hx502_0, hx502_1, hx502_2, hx502_3, hx502_4, hl502_2, hi502_2, hl502_4, hi502_4⟩ := at_T55 HR0.out x5_1 p502 q502
       cases e502
       have HR502_2 := Aside0.mk hi502_2
       have HC502_2 := Aside0.mk hl502_2
       clear hi502_2 hl502_2
       have HR502_4 := Aside0.mk hi502_4
       have HC502_4 := Aside0.mk hl502_4
       clear hi502_4 hl502_4
       replace p502 := eq_true p502
       replace q502 := eq_true q502
       go_wp2
       go_ret
       exact ⟨eS_, dR_⟩}
       {
       rw [if_neg c5] at H
       have c5b0 : (((rd_T55 l0 x5_1).f0).toList == a1.toList) = false := beq_eq_false_iff_ne.mpr c5
       have c5b1 : (((rd_T55 l0 x5_1).f0).toList != a1.toList) = true := bne_iff_ne.mpr c5
       have H' := Aside0.mk H
       clear H
       have p502 : 0 ≤ (x5_1 : Int) := dA_
       have q502 : x5_1 < (l0.length : Int) := dA_
       obtain ⟨ad502, A502_2, c502_2, A502_4, c502_4, e502, hx502_0, hx502_1, hx502_2, hx502_3, hx502_4, hl502_2, hi502_2, hl502_4, hi502_4⟩ := at_T55 HR0.out x5_1 p502 q502
       cases e502
       have HR502_2 := Aside0.mk hi502_2
       have HC502_2 := Aside0.mk hl502_2
       clear hi502_2 hl502_2
       have HR502_4 := Aside0.mk hi502_4
       have HC502_4 := Aside0.mk hl502_4
       clear hi502_4 hl502_4
       replace p502 := eq_true p502
       replace q502 := eq_true q502
       go_wp2
       go_roundg k1
       case measure => have := HK1.out; omega
       case rel => exact ⟨(wrap64 (x5_1 + 1)), (by first | rfl | (simp; done) | (simp [*]; done)), H', ⟨by have := HK1.out; omega⟩, dR_⟩}}
       {
       rw [if_neg c4] at H
       exact absurd H (by simp)}}
       {
       rw [if_neg c3] at H
       have c3b0 := decide_eq_false c3
       (try (have c3b0' := c3b0; simp only [hl502_4] at c3b0'))
       clear c3
       obtain rfl := Option.some.inj H
       go_wp2
       go_ret
       exact ⟨eS_, dR_⟩
}
def spec_l3Has.l0 : Nat → List ByteArray → ByteArray → Int → Option (Bool)
 | 0, _, _, _ => none
 | k + 1, x0, x1, x5 => if x5 < (x0.length : Int) then (if 0 ≤ x5 then (if (rdOf ByteArray.empty x0 x5).toList = x1.toList then (some true) else (spec_l3Has.l0 k x0 x1 (wrap64 (x5 + 1)))) else (none)) else (some false)
def spec_l3Has.f (k : Nat) (l0 : List ByteArray) (a1 : ByteArray) : Option (Bool) := spec_l3Has.l0 k l0 a1 0
theorem spec_l3Has.calls (k : Nat) (A0 : Option Addr) (c0 : Nat) (l0 : List ByteArray) (a1 : ByteArray) (r : Bool) (w : World) (hr0 : Kd.C Kd.string w A0 l0.length l0) (hc0 : l0.length ≤ c0) (h : spec_l3Has.f k l0 a1 = some r) :
 Calls Tryz.prog 38 #[.slice A0 l0.length c0, .string a1] w fun e w' => e = .returned (.bool r) ∧ Drawn0 w w' := by
 have HR0 := Aside0.mk hr0
 have HC0 := Aside0.mk hc0
 clear hr0 hc0
 have H : (spec_l3Has.l0 k l0 a1 0) = some r := h
 clear h
 have H' := Aside0.mk H
 clear H
 go_enter Tryz.func38, Tryz.ntmps38
 go_wp2
 go_loopg [5] k (fun kq v5 w' => ∃ (x5_1 : Int), v5 = .int .i64 x5_1 ∧ Aside0 (spec_l3Has.l0 kq l0 a1 x5_1 = some r) ∧ Aside0 (kq ≤ k) ∧ Drawn0 w w')
 case atStart => exact ⟨(0), (by first | rfl | (simp; done) | (simp [*]; done)), H', ⟨Nat.le_refl _⟩, dR_⟩
 case round =>
  clear H'
  try clear p2
  obtain ⟨x5_1, rfl, HA, HK1, ⟨m1, rfl⟩⟩ := hrel
  cases gk with
  | zero => exact absurd HA.out (by simp [spec_l3Has.l0])
  | succ k1 =>
       have H := HA.out
       clear HA
       simp only [spec_l3Has.l0] at H
       by_cases c3 : x5_1 < (l0.length : Int)
       {
       rw [if_pos c3] at H
       have c3b0 := decide_eq_true c3
       clear c3
       by_cases c4 : 0 ≤ x5_1
       {
       rw [if_pos c4] at H
       have c4b0 := decide_eq_true c4
       clear c4
       by_cases c5 : (rdOf ByteArray.empty l0 x5_1).toList = a1.toList
       {
       rw [if_pos c5] at H
       have c5b0 : ((rdOf ByteArray.empty l0 x5_1).toList == a1.toList) = true := beq_iff_eq.mpr c5
       have c5b1 : ((rdOf ByteArray.empty l0 x5_1).toList != a1.toList) = false := bne_eq_false_iff_eq.mpr c5
       clear c5
       obtain rfl := Option.some.inj H
       have p503 : 0 ≤ (x5_1 : Int) := dA_
       have q503 : x5_1 < (l0.length : Int) := dA_
       obtain ⟨ad503, e503, hx503_0⟩ := Kd.at_string HR0.out x5_1 p503 q503
       cases e503
       replace p503 := eq_true p503
       replace q503 := eq_true q503
       go_wp2
       go_ret
       exact ⟨eS_, dR_⟩}
       {
       rw [if_neg c5] at H
       have c5b0 : ((rdOf ByteArray.empty l0 x5_1).toList == a1.toList) = false := beq_eq_false_iff_ne.mpr c5
       have c5b1 : ((rdOf ByteArray.empty l0 x5_1).toList != a1.toList) = true := bne_iff_ne.mpr c5
       have H' := Aside0.mk H
       clear H
       have p503 : 0 ≤ (x5_1 : Int) := dA_
       have q503 : x5_1 < (l0.length : Int) := dA_
       obtain ⟨ad503, e503, hx503_0⟩ := Kd.at_string HR0.out x5_1 p503 q503
       cases e503
       replace p503 := eq_true p503
       replace q503 := eq_true q503
       go_wp2
       go_roundg k1
       case measure => have := HK1.out; omega
       case rel => exact ⟨(wrap64 (x5_1 + 1)), (by first | rfl | (simp; done) | (simp [*]; done)), H', ⟨by have := HK1.out; omega⟩, dR_⟩}}
       {
       rw [if_neg c4] at H
       exact absurd H (by simp)}}
       {
       rw [if_neg c3] at H
       have c3b0 := decide_eq_false c3
       clear c3
       obtain rfl := Option.some.inj H
       go_wp2
       go_ret
       exact ⟨eS_, dR_⟩
}
def spec_l12Closure.l0 : Nat → List (S55) → List ByteArray → List ByteArray → Option (List ByteArray)
 | 0, _, _, _ => none
 | k + 1, x0, x5, x6 => if (x6.length : Int) > 0 then (if 0 ≤ (wrap64 ((x6.length : Int) - 1)) then (if (wrap64 ((x6.length : Int) - 1)) < (x6.length : Int) then (if (wrap64 ((x6.length : Int) - 1)) ≤ (x6.length : Int) then ((some (x6.take ((wrap64 ((x6.length : Int) - 1)) : Int).toNat : List ByteArray)).bind fun y514 => ((spec_l12Find.f k x0 (rdOf ByteArray.empty x6 (wrap64 ((x6.length : Int) - 1)))).bind fun t517 => (if t517 < 0 then (spec_l12Closure.l0 k x0 x5 y514) else ((spec_l3Has.f k x5 (rdOf ByteArray.empty x6 (wrap64 ((x6.length : Int) - 1)))).bind fun t518 => (if t518 = true then (spec_l12Closure.l0 k x0 x5 y514) else ((spec_l3Add.f k x5 (rdOf ByteArray.empty x6 (wrap64 ((x6.length : Int) - 1)))).bind fun t519 => (if 0 ≤ t517 then (if t517 < (x0.length : Int) then (if y514.length + ((rd_T55 x0 t517).f2).length < 8796093022208 then (spec_l12Closure.l0 k x0 t519 (y514 ++ ((rd_T55 x0 t517).f2))) else (none)) else (none)) else (none)))))))) else (none)) else (none)) else (none)) else (some x5)
def spec_l12Closure.f (k : Nat) (l0 : List (S55)) (l1 : List ByteArray) : Option (List ByteArray) := (some (([] : List ByteArray) : List ByteArray)).bind fun y507 => (if y507.length + l1.length < 8796093022208 then (spec_l12Closure.l0 k l0 (([] : List ByteArray)) (y507 ++ l1)) else (none))
theorem spec_l12Closure.calls (k : Nat) (A0 : Option Addr) (c0 : Nat) (l0 : List (S55)) (A1 : Option Addr) (c1 : Nat) (l1 : List ByteArray) (r : List ByteArray) (w : World) (hr0 : Kd.C k55 w A0 l0.length l0) (hc0 : l0.length ≤ c0) (hr1 : Kd.C Kd.string w A1 l1.length l1) (hc1 : l1.length ≤ c1) (h : spec_l12Closure.f k l0 l1 = some r) :
 Calls Tryz.prog 39 #[.slice A0 l0.length c0, .slice A1 l1.length c1] w fun e w' => ∃ v0_ : Value, e = .returned (v0_) ∧ Kd.R Kd.string 9 w' w.heap.size (fun _ => True) v0_ r ∧ Below w.heap.size w w' := by
 have HR0 := Aside0.mk hr0
 have HC0 := Aside0.mk hc0
 clear hr0 hc0
 have HR1 := Aside0.mk hr1
 have HC1 := Aside0.mk hc1
 clear hr1 hc1
 have HB := Aside0.mk (Below.refl w.heap.size w)
 have H : ((some (([] : List ByteArray) : List ByteArray)).bind fun y507 => (if y507.length + l1.length < 8796093022208 then (spec_l12Closure.l0 k l0 (([] : List ByteArray)) (y507 ++ l1)) else (none))) = some r := h
 clear h
 obtain ⟨y504, hy504⟩ : ∃ y_ : List ByteArray, y_ = (([] : List ByteArray)) := ⟨_, rfl⟩
 replace H : ((some (([] : List ByteArray) : List ByteArray)).bind fun y507 => (if y507.length + l1.length < 8796093022208 then (spec_l12Closure.l0 k l0 y504 (y507 ++ l1)) else (none))) = some r := rH_ hy504 H
 have Ny504 := Aside0.mk hy504
 clear hy504
 obtain ⟨y507, hy507⟩ : ∃ y_ : List ByteArray, y_ = (([] : List ByteArray)) := ⟨_, rfl⟩
 replace H : (if y507.length + l1.length < 8796093022208 then (spec_l12Closure.l0 k l0 y504 (y507 ++ l1)) else (none)) = some r := rH_ hy507 H
 have Ny507 := Aside0.mk hy507
 clear hy507
 by_cases c3 : y507.length + l1.length < 8796093022208
 {
 rw [if_pos c3] at H
 have LMc3 := Aside0.mk c3
 clear c3
 obtain ⟨y510, hy510⟩ : ∃ y_ : List ByteArray, y_ = (y507 ++ l1) := ⟨_, rfl⟩
 replace H : (spec_l12Closure.l0 k l0 y504 y510) = some r := rH_ hy510 H
 have Ny510 := Aside0.mk hy510
 clear hy510
 have H' := Aside0.mk H
 clear H
 go_enter Tryz.func39, Tryz.ntmps39
 go_wp2_with (first | ((with_reducible refine gate_dst (N := 9) rfl ?_); refine Kd.R_lit Kd.string _ 9 ?hg (N := 9) ?hd (xs := ([] : List ByteArray)) (inner := []) (ok := fun _ => True) (okp := fun _ => True) ?hr ?hp (fun _ hk => hk) trivial (Below.refl _ _) (Nat.le_refl _) (by simp) ?_; (case hd => rfl); (case hg => rfl); (case hr => first | (go_simp; done) | (go_simp; rfl)); (case hp => exact (Reps.none _ _)); intro v505 w4 ho5 hb hg_ hnew_; clear hg_ hnew_; (first | rw [← Ny504.out] at ho5 | (simp only [Int.reduceToNat] at ho5; rw [← Ny504.out] at ho5)); have HO506 := Aside0.mk (Kd.R_lower ho5 (below_size (bw_ HB))); replace HB := Aside0.mk (below_step (bw_ HB) hb); clear hb ho5) | ((with_reducible refine gate_dst (N := 10) rfl ?_); refine Kd.R_lit Kd.string _ 9 ?hg (N := 10) ?hd (xs := ([] : List ByteArray)) (inner := []) (ok := fun _ => True) (okp := fun _ => True) ?hr ?hp (fun _ hk => hk) trivial (Below.refl _ _) (Nat.le_refl _) (by simp) ?_; (case hd => rfl); (case hg => rfl); (case hr => first | (go_simp; done) | (go_simp; rfl)); (case hp => exact (Reps.none _ _)); intro v508 w6 ho7 hb hg_ hnew_; clear hg_ hnew_; (first | rw [← Ny507.out] at ho7 | (simp only [Int.reduceToNat] at ho7; rw [← Ny507.out] at ho7)); have HO509 := Aside0.mk (Kd.R_lower (Kd.R_new' ho7 (Kd.R_lt (kr_ HO506))) (below_size (bw_ HB))); replace HO506 := Aside0.mk (Kd.R_elder' (kr_ HO506) (Kd.R_base ho7) hb); replace HB := Aside0.mk (below_step (bw_ HB) hb); clear hb ho7) | ((with_reducible refine gate_builtin (b := .append) (xs := #[.tmp 10, .tmp 11]) rfl ?_); at_builtin; refine Kd.R_append_rows Kd.string (w0 := w) w.heap.size rfl (.tmp 10) (.tmp 11) 29 9 (.string ⟨#[]⟩) 16 rfl Tryz.underlying29 info9 rfl (by decide) (by omega) v508 y507 l1 _ _ _ (fun k_ => some k_ ≠ (v505 : Value).ownBlock) (fun _ => False) rfl rfl ?aO ?aR (fun _ _ h => h) (fun _ h => h.elim) ?aF ?aB ?aS ?aL ?_; (case aR => exact cS_ HR1 HB); (case aB => exact (bw_ HB)); (case aF => exact (fun k_ hk => Kd.fresh' (Kd.R_lt (kr_ HO506)) k_ hk)); (case aO => exact (by (with_reducible repeat (first | apply Kd.R_alloc | apply Kd.R_drewN | apply Kd.R_drew)); exact Kd.R_mono HO509.out (fun _ hk => hk.2))); (case aS => exact (below_size (bw_ HB))); (case aL => have := LMc3.out; omega); intro v511 w8 ho hb hg hat; rw [← Ny510.out] at ho; replace HO506 := Aside0.mk (Kd.R_after (ok := (fun _ => True)) (kr_ HO506) hg hat); replace HB := Aside0.mk (hb); have HO512 := Aside0.mk (ho); clear HO509; clear ho hb hg hat))
 go_loopg [5, 6] k (fun kq v5 v6 w' => ∃ (x5_1 : List ByteArray) (x6_1 : List ByteArray), Aside0 (spec_l12Closure.l0 kq l0 x5_1 x6_1 = some r) ∧ Aside0 (kq ≤ k) ∧ Aside0 (Kd.R Kd.string 9 w' w.heap.size (fun k_ => some k_ ≠ (v6 : Value).ownBlock) v5 x5_1) ∧ Aside0 (Kd.R Kd.string 9 w' w.heap.size (fun k_ => some k_ ≠ (v5 : Value).ownBlock) v6 x6_1) ∧ Aside0 (Below w.heap.size w w'))
 case atStart => exact ⟨(y504), (y510), H', ⟨Nat.le_refl _⟩, ⟨by (with_reducible repeat (first | apply Kd.R_alloc | apply Kd.R_drewN | apply Kd.R_drew)); exact Kd.R_mono HO506.out (fun _ hk => hk.2)⟩, ⟨kr_ HO512⟩, ⟨bw_ HB⟩⟩
 case round =>
  clear H'
  try clear c1
  try clear p2
  try clear c3
  obtain ⟨x5_1, x6_1, HA, HK1, HO_5, HO_6, HB⟩ := hrel
  cases gk with
  | zero => exact absurd HA.out (by simp [spec_l12Closure.l0])
  | succ k1 =>
       have H := HA.out
       clear HA
       simp only [spec_l12Closure.l0] at H
       by_cases c9 : (x6_1.length : Int) > 0
       {
       rw [if_pos c9] at H
       have c9b0 : decide (0 < (x6_1.length : Int)) = true := decide_eq_true c9
       have c9b1 : decide (0 < x6_1.length) = true := decide_eq_true (by omega)
       clear c9
       obtain ⟨ji10, hji10⟩ : ∃ j_ : Int, (wrap64 ((x6_1.length : Int) - 1)) = j_ := ⟨_, rfl⟩
       replace H : (if 0 ≤ (ji10) then (if (ji10) < (x6_1.length : Int) then (if (ji10) ≤ (x6_1.length : Int) then ((some (x6_1.take ((ji10) : Int).toNat : List ByteArray)).bind fun y514 => ((spec_l12Find.f k1 l0 (rdOf ByteArray.empty x6_1 (ji10))).bind fun t517 => (if t517 < 0 then (spec_l12Closure.l0 k1 l0 x5_1 y514) else ((spec_l3Has.f k1 x5_1 (rdOf ByteArray.empty x6_1 (ji10))).bind fun t518 => (if t518 = true then (spec_l12Closure.l0 k1 l0 x5_1 y514) else ((spec_l3Add.f k1 x5_1 (rdOf ByteArray.empty x6_1 (ji10))).bind fun t519 => (if 0 ≤ t517 then (if t517 < (l0.length : Int) then (if y514.length + ((rd_T55 l0 t517).f2).length < 8796093022208 then (spec_l12Closure.l0 k1 l0 t519 (y514 ++ ((rd_T55 l0 t517).f2))) else (none)) else (none)) else (none)))))))) else (none)) else (none)) else (none)) = some r := by first | (rw [hji10] at H; exact H) | (simp only [hji10] at H ⊢; exact H)
       have hji10w : (IntKind.i64.wrap ((x6_1.length : Int) - 1)) = ji10 := (i64_w _).trans hji10
       by_cases c11 : 0 ≤ (ji10)
       {
       rw [if_pos c11] at H
       have c11b0 := decide_eq_true c11
       clear c11
       by_cases c12 : (ji10) < (x6_1.length : Int)
       {
       rw [if_pos c12] at H
       have c12b0 := decide_eq_true c12
       clear c12
       by_cases c13 : (ji10) ≤ (x6_1.length : Int)
       {
       rw [if_pos c13] at H
       have c13b0 := eq_true c13
       have c13b1 := decide_eq_true c13
       clear c13
       obtain ⟨y514, hy514⟩ : ∃ y_ : List ByteArray, y_ = (x6_1.take ((ji10) : Int).toNat) := ⟨_, rfl⟩
       replace H : ((spec_l12Find.f k1 l0 (rdOf ByteArray.empty x6_1 (ji10))).bind fun t517 => (if t517 < 0 then (spec_l12Closure.l0 k1 l0 x5_1 y514) else ((spec_l3Has.f k1 x5_1 (rdOf ByteArray.empty x6_1 (ji10))).bind fun t518 => (if t518 = true then (spec_l12Closure.l0 k1 l0 x5_1 y514) else ((spec_l3Add.f k1 x5_1 (rdOf ByteArray.empty x6_1 (ji10))).bind fun t519 => (if 0 ≤ t517 then (if t517 < (l0.length : Int) then (if y514.length + ((rd_T55 l0 t517).f2).length < 8796093022208 then (spec_l12Closure.l0 k1 l0 t519 (y514 ++ ((rd_T55 l0 t517).f2))) else (none)) else (none)) else (none))))))) = some r := rH_ hy514 H
       have Ny514 := Aside0.mk hy514
       clear hy514
       replace H := Option.bind_eq_some_iff.mp H
       obtain ⟨t517, A140, H⟩ := H
       have A14 := Aside0.mk A140
       clear A140
       by_cases c15 : t517 < 0
       {
       rw [if_pos c15] at H
       have c15b0 := decide_eq_true c15
       clear c15
       have H' := Aside0.mk H
       clear H
       obtain ⟨Ao16, co16, eo16⟩ := Kd.R_slice HO_6.out
       subst eo16
       have p513 : 0 ≤ ((ji10) : Int) := dA_
       have q513 : (ji10) < (x6_1.length : Int) := dA_
       obtain ⟨ad513, e513, hx513_0⟩ := Kd.at_string (Kd.R_reads' HO_6.out).2.2 (ji10) p513 q513
       cases e513
       replace p513 := eq_true p513
       replace q513 := eq_true q513
       have q17 : ((ji10) : Int) ≤ ((x6_1.length : Int) : Int) := dA_
       obtain ⟨i017, hi017, _, hsz17, _⟩ := info_parts info9
       have hcut17 := cut_to (P := Tryz.prog) 29 9 .i64 Tryz.underlying29 hi017 (some ad513) x6_1.length co16 (ji10) (dA_) q17 (Kd.R_reads' HO_6.out).2.1
       have hr17 := Kd.R_take (m := ((ji10) : Int).toNat) HO_6.out (by omega)
       have hy17 : y514.length = ((ji10) : Int).toNat := (by rw [Ny514.out, List.length_take]; omega)
       rw [← Ny514.out] at hr17
       rw [← hy17] at hr17 hcut17
       clear hy17 hi017 hsz17 HO_6
       have HO516 := Aside0.mk hr17
       clear hr17
       replace q17 := eq_true q17
       go_wp2_with (first | ((with_reducible refine gate_callee (f := 37) rfl ?_); refine goesL_ (some 29) rfl rfl Tryz.func37 (by kernel_rfl) rfl #[.slice A0 l0.length c0, .string (rdOf ByteArray.empty x6_1 (ji10))] rfl (by (try simp only [List.map_toArray, List.map_cons, List.map_nil]); first | done | (simp only [hji10]; rfl) | rfl | (simp only [List.length_drop, List.length_take]; rfl)) ?_; (with_reducible refine (spec_l12Find.calls k1 _ _ l0 (rdOf ByteArray.empty x6_1 (ji10)) t517 _ ?side1 ?side2 A14.out).mono ?_); (case side1 => exact cS_ HR0 HB); (case side2 => exact HC0.out); rintro e w' ⟨rfl, ⟨nd, rfl⟩⟩; refine ⟨_, rfl, ?_⟩))
       go_roundg k1
       case measure => have := HK1.out; omega
       case rel => exact ⟨(x5_1), (y514), H', ⟨by have := HK1.out; omega⟩, ⟨kr_ HO_5⟩, ⟨kr_ HO516⟩, ⟨bw_ HB⟩⟩}
       {
       rw [if_neg c15] at H
       have c15b0 := decide_eq_false c15
       clear c15
       replace H := Option.bind_eq_some_iff.mp H
       obtain ⟨t518, A180, H⟩ := H
       have A18 := Aside0.mk A180
       clear A180
       by_cases c19 : t518 = true
       {
       subst c19
       rw [if_pos rfl] at H
       have H' := Aside0.mk H
       clear H
       obtain ⟨Ao20, co20, eo20⟩ := Kd.R_slice HO_6.out
       subst eo20
       have p513 : 0 ≤ ((ji10) : Int) := dA_
       have q513 : (ji10) < (x6_1.length : Int) := dA_
       obtain ⟨ad513, e513, hx513_0⟩ := Kd.at_string (Kd.R_reads' HO_6.out).2.2 (ji10) p513 q513
       cases e513
       replace p513 := eq_true p513
       replace q513 := eq_true q513
       have q21 : ((ji10) : Int) ≤ ((x6_1.length : Int) : Int) := dA_
       obtain ⟨i021, hi021, _, hsz21, _⟩ := info_parts info9
       have hcut21 := cut_to (P := Tryz.prog) 29 9 .i64 Tryz.underlying29 hi021 (some ad513) x6_1.length co20 (ji10) (dA_) q21 (Kd.R_reads' HO_6.out).2.1
       have hr21 := Kd.R_take (m := ((ji10) : Int).toNat) HO_6.out (by omega)
       have hy21 : y514.length = ((ji10) : Int).toNat := (by rw [Ny514.out, List.length_take]; omega)
       rw [← Ny514.out] at hr21
       rw [← hy21] at hr21 hcut21
       clear hy21 hi021 hsz21 HO_6
       have HO516 := Aside0.mk hr21
       clear hr21
       replace q21 := eq_true q21
       go_wp2_with (first | ((with_reducible refine gate_callee (f := 37) rfl ?_); refine goesL_ (some 29) rfl rfl Tryz.func37 (by kernel_rfl) rfl #[.slice A0 l0.length c0, .string (rdOf ByteArray.empty x6_1 (ji10))] rfl (by (try simp only [List.map_toArray, List.map_cons, List.map_nil]); first | done | (simp only [hji10]; rfl) | rfl | (simp only [List.length_drop, List.length_take]; rfl)) ?_; (with_reducible refine (spec_l12Find.calls k1 _ _ l0 (rdOf ByteArray.empty x6_1 (ji10)) t517 _ ?side1 ?side2 A14.out).mono ?_); (case side1 => exact cS_ HR0 HB); (case side2 => exact HC0.out); rintro e w' ⟨rfl, ⟨nd, rfl⟩⟩; refine ⟨_, rfl, ?_⟩; obtain ⟨Ao22, co22, eo22⟩ := Kd.R_slice HO_5.out; subst eo22) | (go_at_call 38; (with_reducible refine (spec_l3Has.calls k1 _ _ x5_1 (rdOf ByteArray.empty x6_1 (ji10)) true _ ?side1 ?side2 A18.out).mono ?_); (case side1 => repeat (first | exact (Kd.R_reads' HO_5.out).2.2 | (with_reducible refine Kd.C_alloc ?_ _) | (with_reducible refine Kd.C_drewN ?_ _) | (with_reducible refine Kd.C_drew ?_))); (case side2 => exact (Kd.R_reads' HO_5.out).2.1); rintro e w' ⟨rfl, ⟨nd, rfl⟩⟩))
       go_roundg k1
       case measure => have := HK1.out; omega
       case rel => exact ⟨(x5_1), (y514), H', ⟨by have := HK1.out; omega⟩, ⟨kr_ HO_5⟩, ⟨kr_ HO516⟩, ⟨bw_ HB⟩⟩}
       {
       replace c19 := Bool.eq_false_iff.mpr c19
       subst c19
       rw [if_neg (show ¬ (false = true) by decide)] at H
       replace H := Option.bind_eq_some_iff.mp H
       obtain ⟨t519, A230, H⟩ := H
       have A23 := Aside0.mk A230
       clear A230
       by_cases c24 : 0 ≤ t517
       {
       rw [if_pos c24] at H
       have c24b0 := decide_eq_true c24
       clear c24
       by_cases c25 : t517 < (l0.length : Int)
       {
       rw [if_pos c25] at H
       have c25b0 := decide_eq_true c25
       clear c25
       by_cases c26 : y514.length + ((rd_T55 l0 t517).f2).length < 8796093022208
       {
       rw [if_pos c26] at H
       have LMc26 := Aside0.mk c26
       clear c26
       obtain ⟨y523, hy523⟩ : ∃ y_ : List ByteArray, y_ = (y514 ++ ((rd_T55 l0 t517).f2)) := ⟨_, rfl⟩
       replace H : (spec_l12Closure.l0 k1 l0 t519 y523) = some r := rH_ hy523 H
       have Ny523 := Aside0.mk hy523
       clear hy523
       have H' := Aside0.mk H
       clear H
       obtain ⟨Ao27, co27, eo27⟩ := Kd.R_slice HO_6.out
       subst eo27
       have p513 : 0 ≤ ((ji10) : Int) := dA_
       have q513 : (ji10) < (x6_1.length : Int) := dA_
       obtain ⟨ad513, e513, hx513_0⟩ := Kd.at_string (Kd.R_reads' HO_6.out).2.2 (ji10) p513 q513
       cases e513
       replace p513 := eq_true p513
       replace q513 := eq_true q513
       have q28 : ((ji10) : Int) ≤ ((x6_1.length : Int) : Int) := dA_
       obtain ⟨i028, hi028, _, hsz28, _⟩ := info_parts info9
       have hcut28 := cut_to (P := Tryz.prog) 29 9 .i64 Tryz.underlying29 hi028 (some ad513) x6_1.length co27 (ji10) (dA_) q28 (Kd.R_reads' HO_6.out).2.1
       have hr28 := Kd.R_take (m := ((ji10) : Int).toNat) HO_6.out (by omega)
       have hy28 : y514.length = ((ji10) : Int).toNat := (by rw [Ny514.out, List.length_take]; omega)
       rw [← Ny514.out] at hr28
       rw [← hy28] at hr28 hcut28
       clear hy28 hi028 hsz28 HO_6
       have HO516 := Aside0.mk hr28
       clear hr28
       replace q28 := eq_true q28
       go_wp2_with (first | ((with_reducible refine gate_callee (f := 37) rfl ?_); refine goesL_ (some 29) rfl rfl Tryz.func37 (by kernel_rfl) rfl #[.slice A0 l0.length c0, .string (rdOf ByteArray.empty x6_1 (ji10))] rfl (by (try simp only [List.map_toArray, List.map_cons, List.map_nil]); first | done | (simp only [hji10]; rfl) | rfl | (simp only [List.length_drop, List.length_take]; rfl)) ?_; (with_reducible refine (spec_l12Find.calls k1 _ _ l0 (rdOf ByteArray.empty x6_1 (ji10)) t517 _ ?side1 ?side2 A14.out).mono ?_); (case side1 => exact cS_ HR0 HB); (case side2 => exact HC0.out); rintro e w' ⟨rfl, ⟨nd, rfl⟩⟩; refine ⟨_, rfl, ?_⟩; obtain ⟨Ao29, co29, eo29⟩ := Kd.R_slice HO_5.out; subst eo29) | (go_at_call 38; (with_reducible refine (spec_l3Has.calls k1 _ _ x5_1 (rdOf ByteArray.empty x6_1 (ji10)) false _ ?side1 ?side2 A18.out).mono ?_); (case side1 => repeat (first | exact (Kd.R_reads' HO_5.out).2.2 | (with_reducible refine Kd.C_alloc ?_ _) | (with_reducible refine Kd.C_drewN ?_ _) | (with_reducible refine Kd.C_drew ?_))); (case side2 => exact (Kd.R_reads' HO_5.out).2.1); rintro e w' ⟨rfl, ⟨nd, rfl⟩⟩) | ((with_reducible refine gate_callee (f := 67) rfl ?_); refine goesL_ (some 39) rfl rfl Tryz.func67 (by kernel_rfl) rfl #[.slice Ao29 x5_1.length co29, .string (rdOf ByteArray.empty x6_1 (ji10))] rfl (by (try simp only [List.map_toArray, List.map_cons, List.map_nil]); first | done | (simp only [hji10]; rfl) | rfl | (simp only [List.length_drop, List.length_take]; rfl)) ?_; (with_reducible refine (spec_l3Add.calls k1 (fun k_ => some k_ = (.slice Ao29 x5_1.length co29 : Value).ownBlock) (.slice Ao29 x5_1.length co29) x5_1 (rdOf ByteArray.empty x6_1 (ji10)) t519 w _ ?side1 ?side2 A23.out).mono ?_); (case side1 => repeat (first | (with_reducible first | exact HB.out | apply below_alloc | apply pw_below_drewN | apply below_drew1) | exact HB.out)); (case side2 => exact Kd.R_tight rfl HO_5.out); rintro e w30 ⟨v520, rfl, ho0, hb, hkp⟩; refine ⟨_, rfl, ?_⟩; have HO521 := Aside0.mk (Kd.R_mono (ok' := fun k_ => some k_ ≠ (.slice (some ad513) y514.length co27 : Value).ownBlock) ho0 (fun k_ hk_ => Or.elim hk_ (fun hs_ => fun e_ => (((HO516.out).1 k_ e_.symm)) hs_) (fun hn_ => (Kd.fresh' (Kd.R_lt (kr_ HO516)) k_ hn_)))); replace HO516 := Aside0.mk (Kd.R_mono (ok' := fun k_ => some k_ ≠ (v520 : Value).ownBlock) (Kd.R_keptB (HO516.out) hkp (fun k_ hk_ hs_ => (hk_) hs_)) (fun k_ hk_ => fun e_ => Or.elim (ho0.1 k_ e_.symm) (fun hs_ => hk_.2.1 hs_) (fun hn_ => Nat.not_le.2 hk_.2.2 hn_))); replace HB := Aside0.mk (hb); clear HO_5; (try clear hb); (try clear hkp); (try clear ho0); have p522 : 0 ≤ (t517 : Int) := dA_; have q522 : t517 < (l0.length : Int) := dA_; obtain ⟨ad522, A522_2, c522_2, A522_4, c522_4, e522, hx522_0, hx522_1, hx522_2, hx522_3, hx522_4, hl522_2, hi522_2, hl522_4, hi522_4⟩ := at_T55 HR0.out t517 p522 q522; cases e522; replace hx522_0 := hX_ HB hx522_0; replace hx522_1 := hX_ HB hx522_1; replace hx522_2 := hX_ HB hx522_2; replace hx522_3 := hX_ HB hx522_3; replace hx522_4 := hX_ HB hx522_4; have HR522_2 := Aside0.mk hi522_2; have HC522_2 := Aside0.mk hl522_2; clear hi522_2 hl522_2; have HR522_4 := Aside0.mk hi522_4; have HC522_4 := Aside0.mk hl522_4; clear hi522_4 hl522_4; replace p522 := eq_true p522; replace q522 := eq_true q522) | ((with_reducible refine gate_builtin (b := .append) (xs := #[.tmp 40, .tmp 45]) rfl ?_); at_builtin; refine Kd.R_append_rows Kd.string (w0 := w) w.heap.size rfl (.tmp 40) (.tmp 45) 29 9 (.string ⟨#[]⟩) 16 rfl Tryz.underlying29 info9 rfl (by decide) (by omega) (.slice (some ad513) y514.length co27) y514 ((rd_T55 l0 t517).f2) _ _ _ (fun k_ => some k_ ≠ (v520 : Value).ownBlock) (fun _ => False) rfl rfl ?aO ?aR (fun _ _ h => h) (fun _ h => h.elim) ?aF ?aB ?aS ?aL ?_; (case aR => exact cS_ HR522_2 HB); (case aB => exact (bw_ HB)); (case aF => exact (fun k_ hk => Kd.fresh' (Kd.R_lt (kr_ HO521)) k_ hk)); (case aO => exact (kr_ HO516)); (case aS => exact (below_size (bw_ HB))); (case aL => have := LMc26.out; omega); intro v524 w31 ho hb hg hat; rw [← Ny523.out] at ho; replace HO521 := Aside0.mk (Kd.R_after (ok := (fun _ => True)) (by (with_reducible repeat (first | apply Kd.R_alloc | apply Kd.R_drewN | apply Kd.R_drew)); exact Kd.R_mono HO521.out (fun _ hk => ⟨trivial, hk⟩)) hg hat); replace HB := Aside0.mk (hb); have HO525 := Aside0.mk (ho); clear HO516; clear ho hb hg hat))
       go_roundg k1
       case measure => have := HK1.out; omega
       case rel => exact ⟨(t519), (y523), H', ⟨by have := HK1.out; omega⟩, ⟨by (with_reducible repeat (first | apply Kd.R_alloc | apply Kd.R_drewN | apply Kd.R_drew)); exact Kd.R_mono HO521.out (fun _ hk => hk.2)⟩, ⟨kr_ HO525⟩, ⟨bw_ HB⟩⟩}
       {
       rw [if_neg c26] at H
       exact absurd H (by simp)}}
       {
       rw [if_neg c25] at H
       exact absurd H (by simp)}}
       {
       rw [if_neg c24] at H
       exact absurd H (by simp)}}}}
       {
       rw [if_neg c13] at H
       exact absurd H (by simp)}}
       {
       rw [if_neg c12] at H
       exact absurd H (by simp)}}
       {
       rw [if_neg c11] at H
       exact absurd H (by simp)}}
       {
       rw [if_neg c9] at H
       have c9b0 : decide (0 < (x6_1.length : Int)) = false := decide_eq_false c9
       (try (have c9b0' := c9b0; simp only [hl522_4] at c9b0'))
       have c9b1 : decide (0 < x6_1.length) = false := decide_eq_false (by omega)
       (try (have c9b1' := c9b1; simp only [hl522_4] at c9b1'))
       clear c9
       obtain rfl := Option.some.inj H
       obtain ⟨Ao32, co32, eo32⟩ := Kd.R_slice HO_6.out
       subst eo32
       go_wp2
       go_ret
       exact ⟨_, eR_, by (with_reducible repeat (first | apply Kd.R_alloc | apply Kd.R_drewN | apply Kd.R_drew)); exact Kd.R_mono HO_5.out (fun _ hk => trivial), bw_ HB⟩}}
 {
 rw [if_neg c3] at H
 exact absurd H (by simp)
}
mutual
def spec_UsedBy.j0 : Nat → List (S55) → ByteArray → List ByteArray → Bool → Option (List ByteArray)
 | 0, _, _, _, _ => none
 | k + 1, x0, x1, x5, x16 => if x16 = true then (some x5) else (spec_UsedBy.l0 k x0 x1 x5 0)
def spec_UsedBy.l0 : Nat → List (S55) → ByteArray → List ByteArray → Int → Option (List ByteArray)
 | 0, _, _, _, _ => none
 | k + 1, x0, x1, x5, x6 => if x6 < (x0.length : Int) then (if 0 ≤ x6 then ((spec_l12Closure.f k x0 (([(rd_T55 x0 x6).f0] : List ByteArray))).bind fun t535 => ((spec_l3Has.f k t535 x1).bind fun t538 => (if t538 = true then (if x5.length < 8796093022208 then (spec_UsedBy.l0 k x0 x1 (x5 ++ [(rd_T55 x0 x6).f0]) (wrap64 (x6 + 1))) else (none)) else (spec_UsedBy.l0 k x0 x1 x5 (wrap64 (x6 + 1)))))) else (none)) else (some x5)
end
def spec_UsedBy.f (k : Nat) (l0 : List (S55)) (a1 : ByteArray) : Option (List ByteArray) := (some (([] : List ByteArray) : List ByteArray)).bind fun y526 => ((spec_StoreOk.f k l0).bind fun t529 => (if t529 = true then ((spec_l12Find.f k l0 a1).bind fun t530 => (spec_UsedBy.j0 k l0 a1 y526 (decide (t530 < 0)))) else (spec_UsedBy.j0 k l0 a1 y526 true)))
theorem spec_UsedBy.calls (k : Nat) (A0 : Option Addr) (c0 : Nat) (l0 : List (S55)) (a1 : ByteArray) (r : List ByteArray) (w : World) (hr0 : Kd.C k55 w A0 l0.length l0) (hc0 : l0.length ≤ c0) (h : spec_UsedBy.f k l0 a1 = some r) :
 Calls Tryz.prog 13 #[.slice A0 l0.length c0, .string a1] w fun e w' => ∃ v0_ : Value, e = .returned (v0_) ∧ Kd.R Kd.string 9 w' w.heap.size (fun _ => True) v0_ r ∧ Below w.heap.size w w' := by
 have HR0 := Aside0.mk hr0
 have HC0 := Aside0.mk hc0
 clear hr0 hc0
 have HB := Aside0.mk (Below.refl w.heap.size w)
 have H : ((some (([] : List ByteArray) : List ByteArray)).bind fun y526 => ((spec_StoreOk.f k l0).bind fun t529 => (if t529 = true then ((spec_l12Find.f k l0 a1).bind fun t530 => (spec_UsedBy.j0 k l0 a1 y526 (decide (t530 < 0)))) else (spec_UsedBy.j0 k l0 a1 y526 true)))) = some r := h
 clear h
 obtain ⟨y526, hy526⟩ : ∃ y_ : List ByteArray, y_ = (([] : List ByteArray)) := ⟨_, rfl⟩
 replace H : ((spec_StoreOk.f k l0).bind fun t529 => (if t529 = true then ((spec_l12Find.f k l0 a1).bind fun t530 => (spec_UsedBy.j0 k l0 a1 y526 (decide (t530 < 0)))) else (spec_UsedBy.j0 k l0 a1 y526 true))) = some r := rH_ hy526 H
 have Ny526 := Aside0.mk hy526
 clear hy526
 have HC3 := Aside0.mk H
 clear H
 go_enter Tryz.func13, Tryz.ntmps13
 go_upto_region 2 with (first | ((with_reducible refine gate_dst (N := 7) rfl ?_); refine Kd.R_lit Kd.string _ 9 ?hg (N := 7) ?hd (xs := ([] : List ByteArray)) (inner := []) (ok := fun _ => True) (okp := fun _ => True) ?hr ?hp (fun _ hk => hk) trivial (Below.refl _ _) (Nat.le_refl _) (by simp) ?_; (case hd => rfl); (case hg => rfl); (case hr => first | (go_simp; done) | (go_simp; rfl)); (case hp => exact (Reps.none _ _)); intro v527 w4 ho5 hb hg_ hnew_; clear hg_ hnew_; (first | rw [← Ny526.out] at ho5 | (simp only [Int.reduceToNat] at ho5; rw [← Ny526.out] at ho5)); have HO528 := Aside0.mk (Kd.R_lower ho5 (below_size (bw_ HB))); replace HB := Aside0.mk (below_step (bw_ HB) hb); clear hb ho5))
 (try simp only [Act.put, List.setIfInBounds_toArray, List.set_cons_zero, List.set_cons_succ])
 go_cut [16] (fun v16 wc => ∃ (kq : Nat) (x16_2 : Bool), v16 = .bool x16_2 ∧ Aside0 (spec_UsedBy.j0 kq l0 a1 y526 x16_2 = some r) ∧ Aside0 (kq ≤ k) ∧ Aside0 (Kd.R Kd.string 9 wc w.heap.size (fun _ => True) v527 y526) ∧ Aside0 (Below w.heap.size w wc))
 case first =>
  have H := HC3.out
  clear HC3
  replace H := Option.bind_eq_some_iff.mp H
  obtain ⟨t529, A60, H⟩ := H
  have A6 := Aside0.mk A60
  clear A60
  by_cases c7 : t529 = true
  {
  subst c7
  rw [if_pos rfl] at H
  replace H := Option.bind_eq_some_iff.mp H
  obtain ⟨t530, A80, H⟩ := H
  have A8 := Aside0.mk A80
  clear A80
  have H' := Aside0.mk H
  clear H
  go_wp2_with (first | ((with_reducible refine gate_callee (f := 33) rfl ?_); refine gL_ (some 9) Tryz.func33 #[.slice A0 l0.length c0] ?_; (with_reducible refine (spec_StoreOk.calls k _ _ l0 true _ ?side1 ?side2 A6.out).mono ?_); (case side1 => exact cS_ HR0 HB); (case side2 => exact HC0.out); rintro e w9 ⟨rfl, hb⟩; refine ⟨_, rfl, ?_⟩; replace HO528 := Aside0.mk (Kd.R_below (kr_ HO528) hb); replace HB := Aside0.mk (below_step (bw_ HB) hb); clear hb) | (go_at_call 37; (with_reducible refine (spec_l12Find.calls k _ _ l0 a1 t530 _ ?side1 ?side2 A8.out).mono ?_); (case side1 => exact cS_ HR0 HB); (case side2 => exact HC0.out); rintro e w' ⟨rfl, ⟨nd, rfl⟩⟩))
  go_meet
  case rel => exact ⟨_, (decide (t530 < 0)), (by first | rfl | (simp; done) | (simp [*]; done)), H', ⟨by first | omega | exact Nat.le_refl _⟩, ⟨kr_ HO528⟩, ⟨bw_ HB⟩⟩}
  {
  replace c7 := Bool.eq_false_iff.mpr c7
  subst c7
  rw [if_neg (show ¬ (false = true) by decide)] at H
  have H' := Aside0.mk H
  clear H
  go_wp2_with (first | ((with_reducible refine gate_callee (f := 33) rfl ?_); refine gL_ (some 9) Tryz.func33 #[.slice A0 l0.length c0] ?_; (with_reducible refine (spec_StoreOk.calls k _ _ l0 false _ ?side1 ?side2 A6.out).mono ?_); (case side1 => exact cS_ HR0 HB); (case side2 => exact HC0.out); rintro e w10 ⟨rfl, hb⟩; refine ⟨_, rfl, ?_⟩; replace HO528 := Aside0.mk (Kd.R_below (kr_ HO528) hb); replace HB := Aside0.mk (below_step (bw_ HB) hb); clear hb))
  go_meet
  case rel => exact ⟨_, (true), (by first | rfl | (simp; done) | (simp [*]; done)), H', ⟨by first | omega | exact Nat.le_refl _⟩, ⟨kr_ HO528⟩, ⟨bw_ HB⟩⟩}
 case rest =>
  clear HC3
  try clear c1
  try clear p2
  try clear c3
  try clear c7
  obtain ⟨kq, x16_2, rfl, HA, HJ2, HO_5, HB⟩ := hcut
  cases kq with
  | zero => exact absurd HA.out (by simp [spec_UsedBy.j0])
  | succ kj2 =>
       have H := HA.out
       clear HA
       simp only [spec_UsedBy.j0] at H
       by_cases c11 : x16_2 = true
       {
       subst c11
       rw [if_pos rfl] at H
       obtain rfl := Option.some.inj H
       go_wp2
       go_ret
       exact ⟨_, eR_, kr_ HO_5, bw_ HB⟩}
       {
       replace c11 := Bool.eq_false_iff.mpr c11
       subst c11
       rw [if_neg (show ¬ (false = true) by decide)] at H
       have H' := Aside0.mk H
       clear H
       go_wp2
       go_loopg [5, 6] kj2 (fun kq v5 v6 w' => ∃ (x5_2 : List ByteArray) (x6_2 : Int), v6 = .int .i64 x6_2 ∧ Aside0 (spec_UsedBy.l0 kq l0 a1 x5_2 x6_2 = some r) ∧ Aside0 (kq ≤ kj2) ∧ Aside0 (Kd.R Kd.string 9 w' w.heap.size (fun _ => True) v5 x5_2) ∧ Aside0 (Below w.heap.size w w'))
       case atStart => exact ⟨(y526), (0), (by first | rfl | (simp; done) | (simp [*]; done)), H', ⟨Nat.le_refl _⟩, ⟨kr_ HO_5⟩, ⟨bw_ HB⟩⟩
       case round =>
        clear H'
        try clear c1
        try clear p2
        try clear c3
        try clear c7
        try clear c11
        try clear p2
        obtain ⟨x5_2, x6_2, rfl, HA, HK2, HO_5, HB⟩ := hrel
        cases gk with
        | zero => exact absurd HA.out (by simp [spec_UsedBy.l0])
        | succ k2 =>
             have H := HA.out
             clear HA
             simp only [spec_UsedBy.l0] at H
             by_cases c12 : x6_2 < (l0.length : Int)
             {
             rw [if_pos c12] at H
             have c12b0 := decide_eq_true c12
             clear c12
             by_cases c13 : 0 ≤ x6_2
             {
             rw [if_pos c13] at H
             have c13b0 := decide_eq_true c13
             clear c13
             obtain ⟨y532, hy532⟩ : ∃ y_ : List ByteArray, y_ = (([(rd_T55 l0 x6_2).f0] : List ByteArray)) := ⟨_, rfl⟩
             replace H : ((spec_l12Closure.f k2 l0 y532).bind fun t535 => ((spec_l3Has.f k2 t535 a1).bind fun t538 => (if t538 = true then (if x5_2.length < 8796093022208 then (spec_UsedBy.l0 k2 l0 a1 (x5_2 ++ [(rd_T55 l0 x6_2).f0]) (wrap64 (x6_2 + 1))) else (none)) else (spec_UsedBy.l0 k2 l0 a1 x5_2 (wrap64 (x6_2 + 1)))))) = some r := rH_ hy532 H
             have Ny532 := Aside0.mk hy532
             clear hy532
             replace H := Option.bind_eq_some_iff.mp H
             obtain ⟨t535, A140, H⟩ := H
             have A14 := Aside0.mk A140
             clear A140
             replace H := Option.bind_eq_some_iff.mp H
             obtain ⟨t538, A150, H⟩ := H
             have A15 := Aside0.mk A150
             clear A150
             by_cases c16 : t538 = true
             {
             subst c16
             rw [if_pos rfl] at H
             by_cases c17 : x5_2.length < 8796093022208
             {
             rw [if_pos c17] at H
             have LMc17 := Aside0.mk c17
             clear c17
             obtain ⟨y540, hy540⟩ : ∃ y_ : List ByteArray, y_ = (x5_2 ++ [(rd_T55 l0 x6_2).f0]) := ⟨_, rfl⟩
             replace H : (spec_UsedBy.l0 k2 l0 a1 y540 (wrap64 (x6_2 + 1))) = some r := rH_ hy540 H
             have Ny540 := Aside0.mk hy540
             clear hy540
             have H' := Aside0.mk H
             clear H
             have p531 : 0 ≤ (x6_2 : Int) := dA_
             have q531 : x6_2 < (l0.length : Int) := dA_
             obtain ⟨ad531, A531_2, c531_2, A531_4, c531_4, e531, hx531_0, hx531_1, hx531_2, hx531_3, hx531_4, hl531_2, hi531_2, hl531_4, hi531_4⟩ := at_T55 HR0.out x6_2 p531 q531
             cases e531
             replace hx531_0 := hX_ HB hx531_0
             replace hx531_1 := hX_ HB hx531_1
             replace hx531_2 := hX_ HB hx531_2
             replace hx531_3 := hX_ HB hx531_3
             replace hx531_4 := hX_ HB hx531_4
             have HR531_2 := Aside0.mk hi531_2
             have HC531_2 := Aside0.mk hl531_2
             clear hi531_2 hl531_2
             have HR531_4 := Aside0.mk hi531_4
             have HC531_4 := Aside0.mk hl531_4
             clear hi531_4 hl531_4
             replace p531 := eq_true p531
             replace q531 := eq_true q531
             go_wp2_with (first | ((with_reducible refine gate_dst (N := 30) rfl ?_); refine Kd.R_lit Kd.string _ 9 ?hg (N := 30) ?hd (xs := ([(rd_T55 l0 x6_2).f0] : List ByteArray)) (inner := [.string ((rd_T55 l0 x6_2).f0)]) (ok := fun _ => True) (okp := fun _ => True) ?hr ?hp (fun _ hk => hk) trivial (Below.refl _ _) (Nat.le_refl _) (by simp) ?_; (case hd => rfl); (case hg => rfl); (case hr => first | (go_simp; done) | (go_simp; rfl)); (case hp => exact (Reps.one (show Kd.M Kd.string _ _ _ ((rd_T55 l0 x6_2).f0) [.string ((rd_T55 l0 x6_2).f0)] from rfl) (Reps.none _ _))); intro v533 w18 ho19 hb hg_ hnew_; clear hg_ hnew_; (first | rw [← Ny532.out] at ho19 | (simp only [Int.reduceToNat] at ho19; rw [← Ny532.out] at ho19)); have HO534 := Aside0.mk (Kd.R_lower (Kd.R_new' ho19 (Kd.R_lt (kr_ HO_5))) (below_size (bw_ HB))); replace HO_5 := Aside0.mk (Kd.R_elder' (kr_ HO_5) (Kd.R_base ho19) hb); replace HB := Aside0.mk (below_step (bw_ HB) hb); clear hb ho19; obtain ⟨Ao20, co20, eo20⟩ := Kd.R_slice HO534.out; subst eo20) | ((with_reducible refine gate_callee (f := 39) rfl ?_); refine gL_ (some 31) Tryz.func39 #[.slice (some ad531) l0.length c0, .slice Ao20 y532.length co20] ?_; (with_reducible refine (spec_l12Closure.calls k2 _ _ l0 _ _ y532 t535 _ ?side1 ?side2 ?side3 ?side4 A14.out).mono ?_); (case side1 => exact cS_ HR0 HB); (case side2 => exact HC0.out); (case side3 => repeat (first | exact (Kd.R_reads' HO534.out).2.2 | (with_reducible refine Kd.C_alloc ?_ _) | (with_reducible refine Kd.C_drewN ?_ _) | (with_reducible refine Kd.C_drew ?_))); (case side4 => exact (Kd.R_reads' HO534.out).2.1); rintro e w21 ⟨v536, rfl, ho0, hb⟩; refine ⟨_, rfl, ?_⟩; have HO537 := Aside0.mk (Kd.R_lower (Kd.R_new' (Kd.R_new' ho0 (Kd.R_lt (kr_ HO_5))) (Kd.R_lt (kr_ HO534))) (below_size (bw_ HB))); replace HO_5 := Aside0.mk (Kd.R_elder' (kr_ HO_5) (Kd.R_base ho0) hb); replace HO534 := Aside0.mk (Kd.R_elder' (kr_ HO534) (Kd.R_base ho0) hb); replace HB := Aside0.mk (below_step (bw_ HB) hb); clear hb; (try clear ho0); obtain ⟨Ao22, co22, eo22⟩ := Kd.R_slice HO537.out; subst eo22) | ((with_reducible refine gate_callee (f := 38) rfl ?_); refine gL_ (some 33) Tryz.func38 #[.slice Ao22 t535.length co22, .string a1] ?_; (with_reducible refine (spec_l3Has.calls k2 _ _ t535 a1 true _ ?side1 ?side2 A15.out).mono ?_); (case side1 => repeat (first | exact (Kd.R_reads' HO537.out).2.2 | (with_reducible refine Kd.C_alloc ?_ _) | (with_reducible refine Kd.C_drewN ?_ _) | (with_reducible refine Kd.C_drew ?_))); (case side2 => exact (Kd.R_reads' HO537.out).2.1); rintro e w' ⟨rfl, ⟨nd, rfl⟩⟩; refine ⟨_, rfl, ?_⟩; have p539 : 0 ≤ (x6_2 : Int) := dA_; have q539 : x6_2 < (l0.length : Int) := dA_; obtain ⟨ad539, A539_2, c539_2, A539_4, c539_4, e539, hx539_0, hx539_1, hx539_2, hx539_3, hx539_4, hl539_2, hi539_2, hl539_4, hi539_4⟩ := at_T55 HR0.out x6_2 p539 q539; obtain rfl : ad531 = ad539 := (by injection e539); replace hx539_0 := hX_ HB hx539_0; replace hx539_1 := hX_ HB hx539_1; replace hx539_2 := hX_ HB hx539_2; replace hx539_3 := hX_ HB hx539_3; replace hx539_4 := hX_ HB hx539_4; have HR539_2 := Aside0.mk hi539_2; have HC539_2 := Aside0.mk hl539_2; clear hi539_2 hl539_2; have HR539_4 := Aside0.mk hi539_4; have HC539_4 := Aside0.mk hl539_4; clear hi539_4 hl539_4; replace p539 := eq_true p539; replace q539 := eq_true q539) | ((with_reducible refine gate_builtin (b := .append) (xs := #[.tmp 34, .tmp 40]) rfl ?_); at_builtin; refine Kd.R_append Kd.string (w0 := w) w.heap.size rfl (.tmp 34) (.tmp 40) 29 9 (.string ⟨#[]⟩) 16 rfl Tryz.underlying29 info9 rfl (by decide) (by omega) u5 x5_2 ((rd_T55 l0 x6_2).f0) [.string ((rd_T55 l0 x6_2).f0)] (fun k_ => some k_ ≠ (.slice Ao20 y532.length co20 : Value).ownBlock ∧ some k_ ≠ (.slice Ao22 t535.length co22 : Value).ownBlock) (fun _ => False) rfl rfl ?aP (fun _ hk => hk.elim) ?aF ?aO ?aB ?aS ?aL ?_; (case aP => exact rfl); (case aB => exact (bw_ HB)); (case aF => exact (fun k_ hk => ⟨Kd.fresh' (Kd.R_lt (kr_ HO534)) k_ hk, Kd.fresh' (Kd.R_lt (kr_ HO537)) k_ hk⟩)); (case aO => exact (by (with_reducible repeat (first | apply Kd.R_alloc | apply Kd.R_drewN | apply Kd.R_drew)); exact Kd.R_mono HO_5.out (fun _ hk => ⟨hk.1.2, hk.2⟩))); (case aS => exact (below_size (bw_ HB))); (case aL => have := LMc17.out; omega); intro v541 w23 ho hb hg hat; rw [← Ny540.out] at ho; replace HO534 := Aside0.mk (Kd.R_after (ok := (fun k_ => some k_ ≠ (.slice Ao22 t535.length co22 : Value).ownBlock)) (by (with_reducible repeat (first | apply Kd.R_alloc | apply Kd.R_drewN | apply Kd.R_drew)); exact Kd.R_mono HO534.out (fun _ hk => ⟨hk.2, hk.1.2⟩)) hg hat); replace HO537 := Aside0.mk (Kd.R_after (ok := (fun k_ => some k_ ≠ (.slice Ao20 y532.length co20 : Value).ownBlock)) (by (with_reducible repeat (first | apply Kd.R_alloc | apply Kd.R_drewN | apply Kd.R_drew)); exact Kd.R_mono HO537.out (fun _ hk => ⟨hk.2, hk.1.2⟩)) hg hat); replace HB := Aside0.mk (hb); have HO542 := Aside0.mk (ho); clear HO_5; clear ho hb hg hat))
             go_roundg k2
             case measure => have := HJ2.out; have := HK2.out; omega
             case rel => exact ⟨(y540), (wrap64 (x6_2 + 1)), (by first | rfl | (simp; done) | (simp [*]; done)), H', ⟨by have := HJ2.out; have := HK2.out; omega⟩, ⟨by (with_reducible repeat (first | apply Kd.R_alloc | apply Kd.R_drewN | apply Kd.R_drew)); exact Kd.R_mono HO542.out (fun _ hk => trivial)⟩, ⟨bw_ HB⟩⟩}
             {
             rw [if_neg c17] at H
             exact absurd H (by simp)}}
             {
             replace c16 := Bool.eq_false_iff.mpr c16
             subst c16
             rw [if_neg (show ¬ (false = true) by decide)] at H
             have H' := Aside0.mk H
             clear H
             have p531 : 0 ≤ (x6_2 : Int) := dA_
             have q531 : x6_2 < (l0.length : Int) := dA_
             obtain ⟨ad531, A531_2, c531_2, A531_4, c531_4, e531, hx531_0, hx531_1, hx531_2, hx531_3, hx531_4, hl531_2, hi531_2, hl531_4, hi531_4⟩ := at_T55 HR0.out x6_2 p531 q531
             cases e531
             replace hx531_0 := hX_ HB hx531_0
             replace hx531_1 := hX_ HB hx531_1
             replace hx531_2 := hX_ HB hx531_2
             replace hx531_3 := hX_ HB hx531_3
             replace hx531_4 := hX_ HB hx531_4
             have HR531_2 := Aside0.mk hi531_2
             have HC531_2 := Aside0.mk hl531_2
             clear hi531_2 hl531_2
             have HR531_4 := Aside0.mk hi531_4
             have HC531_4 := Aside0.mk hl531_4
             clear hi531_4 hl531_4
             replace p531 := eq_true p531
             replace q531 := eq_true q531
             go_wp2_with (first | ((with_reducible refine gate_dst (N := 30) rfl ?_); refine Kd.R_lit Kd.string _ 9 ?hg (N := 30) ?hd (xs := ([(rd_T55 l0 x6_2).f0] : List ByteArray)) (inner := [.string ((rd_T55 l0 x6_2).f0)]) (ok := fun _ => True) (okp := fun _ => True) ?hr ?hp (fun _ hk => hk) trivial (Below.refl _ _) (Nat.le_refl _) (by simp) ?_; (case hd => rfl); (case hg => rfl); (case hr => first | (go_simp; done) | (go_simp; rfl)); (case hp => exact (Reps.one (show Kd.M Kd.string _ _ _ ((rd_T55 l0 x6_2).f0) [.string ((rd_T55 l0 x6_2).f0)] from rfl) (Reps.none _ _))); intro v533 w24 ho25 hb hg_ hnew_; clear hg_ hnew_; (first | rw [← Ny532.out] at ho25 | (simp only [Int.reduceToNat] at ho25; rw [← Ny532.out] at ho25)); have HO534 := Aside0.mk (Kd.R_lower (Kd.R_new' ho25 (Kd.R_lt (kr_ HO_5))) (below_size (bw_ HB))); replace HO_5 := Aside0.mk (Kd.R_elder' (kr_ HO_5) (Kd.R_base ho25) hb); replace HB := Aside0.mk (below_step (bw_ HB) hb); clear hb ho25; obtain ⟨Ao26, co26, eo26⟩ := Kd.R_slice HO534.out; subst eo26) | ((with_reducible refine gate_callee (f := 39) rfl ?_); refine gL_ (some 31) Tryz.func39 #[.slice (some ad531) l0.length c0, .slice Ao26 y532.length co26] ?_; (with_reducible refine (spec_l12Closure.calls k2 _ _ l0 _ _ y532 t535 _ ?side1 ?side2 ?side3 ?side4 A14.out).mono ?_); (case side1 => exact cS_ HR0 HB); (case side2 => exact HC0.out); (case side3 => repeat (first | exact (Kd.R_reads' HO534.out).2.2 | (with_reducible refine Kd.C_alloc ?_ _) | (with_reducible refine Kd.C_drewN ?_ _) | (with_reducible refine Kd.C_drew ?_))); (case side4 => exact (Kd.R_reads' HO534.out).2.1); rintro e w27 ⟨v536, rfl, ho0, hb⟩; refine ⟨_, rfl, ?_⟩; have HO537 := Aside0.mk (Kd.R_lower (Kd.R_new' (Kd.R_new' ho0 (Kd.R_lt (kr_ HO_5))) (Kd.R_lt (kr_ HO534))) (below_size (bw_ HB))); replace HO_5 := Aside0.mk (Kd.R_elder' (kr_ HO_5) (Kd.R_base ho0) hb); replace HO534 := Aside0.mk (Kd.R_elder' (kr_ HO534) (Kd.R_base ho0) hb); replace HB := Aside0.mk (below_step (bw_ HB) hb); clear hb; (try clear ho0); obtain ⟨Ao28, co28, eo28⟩ := Kd.R_slice HO537.out; subst eo28) | ((with_reducible refine gate_callee (f := 38) rfl ?_); refine gL_ (some 33) Tryz.func38 #[.slice Ao28 t535.length co28, .string a1] ?_; (with_reducible refine (spec_l3Has.calls k2 _ _ t535 a1 false _ ?side1 ?side2 A15.out).mono ?_); (case side1 => repeat (first | exact (Kd.R_reads' HO537.out).2.2 | (with_reducible refine Kd.C_alloc ?_ _) | (with_reducible refine Kd.C_drewN ?_ _) | (with_reducible refine Kd.C_drew ?_))); (case side2 => exact (Kd.R_reads' HO537.out).2.1); rintro e w' ⟨rfl, ⟨nd, rfl⟩⟩; refine ⟨_, rfl, ?_⟩))
             go_roundg k2
             case measure => have := HJ2.out; have := HK2.out; omega
             case rel => exact ⟨(x5_2), (wrap64 (x6_2 + 1)), (by first | rfl | (simp; done) | (simp [*]; done)), H', ⟨by have := HJ2.out; have := HK2.out; omega⟩, ⟨by (with_reducible repeat (first | apply Kd.R_alloc | apply Kd.R_drewN | apply Kd.R_drew)); exact Kd.R_mono HO_5.out (fun _ hk => trivial)⟩, ⟨bw_ HB⟩⟩}}
             {
             rw [if_neg c13] at H
             exact absurd H (by simp)}}
             {
             rw [if_neg c12] at H
             have c12b0 := decide_eq_false c12
             (try (have c12b0' := c12b0; simp only [hl539_4] at c12b0'))
             clear c12
             obtain rfl := Option.some.inj H
             go_wp2
             go_ret
             exact ⟨_, eR_, kr_ HO_5, bw_ HB⟩
}}
def impl_itemOf.l0 : Nat → ByteArray → List (S55) → Int → Int → Option (Int)
 | 0, _, _, _, _ => none
 | k + 1, x1, x7, x8, x9 => if x9 < x8 then (if 0 ≤ x9 then (if x9 < (x7.length : Int) then (if ((rd_T55 x7 x9).f0).toList = x1.toList then (some x9) else (impl_itemOf.l0 k x1 x7 x8 (wrap64 (x9 + 1)))) else (none)) else (none)) else (some (-1))
def impl_itemOf.f (k : Nat) (l0 : List (S55)) (a1 : ByteArray) : Option (Int) := impl_itemOf.l0 k a1 l0 (l0.length : Int) 0
theorem impl_itemOf.calls (k : Nat) (A0 : Option Addr) (c0 : Nat) (l0 : List (S55)) (a1 : ByteArray) (r : Int) (w : World) (hr0 : Kd.C k55 w A0 l0.length l0) (hc0 : l0.length ≤ c0) (h : impl_itemOf.f k l0 a1 = some r) :
 Calls Tryz.prog 61 #[.slice A0 l0.length c0, .string a1] w fun e w' => e = .returned (.int .i64 r) ∧ Below w.heap.size w w' := by
 have hu55 := Tryz.underlying55
 have HR0 := Aside0.mk hr0
 have HC0 := Aside0.mk hc0
 clear hr0 hc0
 have HB := Aside0.mk (Below.refl w.heap.size w)
 have H : (impl_itemOf.l0 k a1 l0 (l0.length : Int) 0) = some r := h
 clear h
 have H' := Aside0.mk H
 clear H
 go_enter Tryz.func61, Tryz.ntmps61
 go_wp2
 go_loopg [9] k (fun kq v9 w' => ∃ (x9_1 : Int), v9 = .int .i64 x9_1 ∧ Aside0 (impl_itemOf.l0 kq a1 l0 (l0.length : Int) x9_1 = some r) ∧ Aside0 (kq ≤ k) ∧ Aside0 (Below w.heap.size w w'))
 case atStart => exact ⟨(0), (by first | rfl | (simp; done) | (simp [*]; done)), H', ⟨Nat.le_refl _⟩, ⟨bw_ HB⟩⟩
 case round =>
  clear H'
  try clear p2
  obtain ⟨x9_1, rfl, HA, HK1, HB⟩ := hrel
  cases gk with
  | zero => exact absurd HA.out (by simp [impl_itemOf.l0])
  | succ k1 =>
       have H := HA.out
       clear HA
       simp only [impl_itemOf.l0] at H
       by_cases c3 : x9_1 < (l0.length : Int)
       {
       rw [if_pos c3] at H
       have c3b0 := decide_eq_true c3
       clear c3
       by_cases c4 : 0 ≤ x9_1
       {
       rw [if_pos c4] at H
       have c4b0 := decide_eq_true c4
       clear c4
       by_cases c5 : x9_1 < (l0.length : Int)
       {
       rw [if_pos c5] at H
       have c5b0 := decide_eq_true c5
       clear c5
       by_cases c6 : ((rd_T55 l0 x9_1).f0).toList = a1.toList
       {
       rw [if_pos c6] at H
       have c6b0 : (((rd_T55 l0 x9_1).f0).toList == a1.toList) = true := beq_iff_eq.mpr c6
       have c6b1 : (((rd_T55 l0 x9_1).f0).toList != a1.toList) = false := bne_eq_false_iff_eq.mpr c6
       clear c6
       obtain rfl := Option.some.inj H
       have p543 : 0 ≤ (x9_1 : Int) := dA_
       have q543 : x9_1 < (l0.length : Int) := dA_
       obtain ⟨ad543, A543_2, c543_2, A543_4, c543_4, e543, hx543_0, hx543_1, hx543_2, hx543_3, hx543_4, hl543_2, hi543_2, hl543_4, hi543_4⟩ := at_T55 HR0.out x9_1 p543 q543
       cases e543
       replace hx543_0 := hX_ HB hx543_0
       replace hx543_1 := hX_ HB hx543_1
       replace hx543_2 := hX_ HB hx543_2
       replace hx543_3 := hX_ HB hx543_3
       replace hx543_4 := hX_ HB hx543_4
       have HR543_2 := Aside0.mk hi543_2
       have HC543_2 := Aside0.mk hl543_2
       clear hi543_2 hl543_2
       have HR543_4 := Aside0.mk hi543_4
       have HC543_4 := Aside0.mk hl543_4
       clear hi543_4 hl543_4
       replace p543 := eq_true p543
       replace q543 := eq_true q543
       go_wp2_with (first | ((with_reducible refine gate_dst (N := 6) rfl ?_); refine bE_ 6 #[.string (⟨#[]⟩ : ByteArray), .string (⟨#[]⟩ : ByteArray), .slice none 0 0, .string (⟨#[]⟩ : ByteArray), .slice none 0 0] 55 ?_; intro gb544 hg w7 hbox hb; have BK544 := Aside0.mk (hbox); have GW544 := Aside0.mk (ge_ hg (bw_ HB)); have GE544 := Aside0.mk (ge_ hg (bw_ HB)); replace HB := Aside0.mk (below_step (bw_ HB) hb); clear hb hbox hg; have hcz8_0 := cz_ BK544 0 (.string (⟨#[]⟩ : ByteArray)); have hcz8_1 := cz_ BK544 1 (.string (⟨#[]⟩ : ByteArray)); have hcz8_2 := cz_ BK544 2 (.slice none 0 0); have hcz8_3 := cz_ BK544 3 (.string (⟨#[]⟩ : ByteArray)); have hcz8_4 := cz_ BK544 4 (.slice none 0 0); have hfz8_0 := blk_frozen BK544.out 0; have hfz8_1 := blk_frozen BK544.out 1; have hfz8_2 := blk_frozen BK544.out 2; have hfz8_3 := blk_frozen BK544.out 3; have hfz8_4 := blk_frozen BK544.out 4))
       go_ret
       exact ⟨eR_, bw1_ HB GE544⟩}
       {
       rw [if_neg c6] at H
       have c6b0 : (((rd_T55 l0 x9_1).f0).toList == a1.toList) = false := beq_eq_false_iff_ne.mpr c6
       have c6b1 : (((rd_T55 l0 x9_1).f0).toList != a1.toList) = true := bne_iff_ne.mpr c6
       have H' := Aside0.mk H
       clear H
       have p543 : 0 ≤ (x9_1 : Int) := dA_
       have q543 : x9_1 < (l0.length : Int) := dA_
       obtain ⟨ad543, A543_2, c543_2, A543_4, c543_4, e543, hx543_0, hx543_1, hx543_2, hx543_3, hx543_4, hl543_2, hi543_2, hl543_4, hi543_4⟩ := at_T55 HR0.out x9_1 p543 q543
       cases e543
       replace hx543_0 := hX_ HB hx543_0
       replace hx543_1 := hX_ HB hx543_1
       replace hx543_2 := hX_ HB hx543_2
       replace hx543_3 := hX_ HB hx543_3
       replace hx543_4 := hX_ HB hx543_4
       have HR543_2 := Aside0.mk hi543_2
       have HC543_2 := Aside0.mk hl543_2
       clear hi543_2 hl543_2
       have HR543_4 := Aside0.mk hi543_4
       have HC543_4 := Aside0.mk hl543_4
       clear hi543_4 hl543_4
       replace p543 := eq_true p543
       replace q543 := eq_true q543
       go_wp2_with (first | ((with_reducible refine gate_dst (N := 6) rfl ?_); refine bE_ 6 #[.string (⟨#[]⟩ : ByteArray), .string (⟨#[]⟩ : ByteArray), .slice none 0 0, .string (⟨#[]⟩ : ByteArray), .slice none 0 0] 55 ?_; intro gb544 hg w9 hbox hb; have BK544 := Aside0.mk (hbox); have GW544 := Aside0.mk (ge_ hg (bw_ HB)); have GE544 := Aside0.mk (ge_ hg (bw_ HB)); replace HB := Aside0.mk (below_step (bw_ HB) hb); clear hb hbox hg; have hcz10_0 := cz_ BK544 0 (.string (⟨#[]⟩ : ByteArray)); have hcz10_1 := cz_ BK544 1 (.string (⟨#[]⟩ : ByteArray)); have hcz10_2 := cz_ BK544 2 (.slice none 0 0); have hcz10_3 := cz_ BK544 3 (.string (⟨#[]⟩ : ByteArray)); have hcz10_4 := cz_ BK544 4 (.slice none 0 0); have hfz10_0 := blk_frozen BK544.out 0; have hfz10_1 := blk_frozen BK544.out 1; have hfz10_2 := blk_frozen BK544.out 2; have hfz10_3 := blk_frozen BK544.out 3; have hfz10_4 := blk_frozen BK544.out 4))
       go_roundg k1
       case measure => have := HK1.out; omega
       case rel => exact ⟨(wrap64 (x9_1 + 1)), (by first | rfl | (simp; done) | (simp [*]; done)), H', ⟨by have := HK1.out; omega⟩, ⟨bw1_ HB GE544⟩⟩}}
       {
       rw [if_neg c5] at H
       exact absurd H (by simp)}}
       {
       rw [if_neg c4] at H
       exact absurd H (by simp)}}
       {
       rw [if_neg c3] at H
       have c3b0 := decide_eq_false c3
       (try (have c3b0' := c3b0; simp only [hl543_4] at c3b0'))
       clear c3
       obtain rfl := Option.some.inj H
       go_wp2
       go_ret
       exact ⟨eR_, bw_ HB⟩
}
def impl_closure.l0 : Nat → List (S55) → List (ByteArray × Bool) → List ByteArray → Option (List (ByteArray × Bool))
 | 0, _, _, _ => none
 | k + 1, x0, x5, x6 => if (x6.length : Int) > 0 then (if 0 ≤ (wrap64 ((x6.length : Int) - 1)) then (if (wrap64 ((x6.length : Int) - 1)) < (x6.length : Int) then (if (wrap64 ((x6.length : Int) - 1)) ≤ (x6.length : Int) then ((some (x6.take ((wrap64 ((x6.length : Int) - 1)) : Int).toNat : List ByteArray)).bind fun y555 => ((impl_itemOf.f k x0 (rdOf ByteArray.empty x6 (wrap64 ((x6.length : Int) - 1)))).bind fun t558 => (if t558 < 0 then (impl_closure.l0 k x0 x5 y555) else (if (rdOf ByteArray.empty x6 (wrap64 ((x6.length : Int) - 1))).size ≤ 9223372036854775807 then (if (mgetD false x5 (rdOf ByteArray.empty x6 (wrap64 ((x6.length : Int) - 1)))) = true then (impl_closure.l0 k x0 x5 y555) else (if x5.length < 1099511627776 then (if 0 ≤ t558 then (if t558 < (x0.length : Int) then (if y555.length + ((rd_T55 x0 t558).f2).length < 8796093022208 then (impl_closure.l0 k x0 (x5 ++ [(rdOf ByteArray.empty x6 (wrap64 ((x6.length : Int) - 1)), true)]) (y555 ++ ((rd_T55 x0 t558).f2))) else (none)) else (none)) else (none)) else (none))) else (none))))) else (none)) else (none)) else (none)) else (some x5)
def impl_closure.f (k : Nat) (l0 : List (S55)) (l1 : List ByteArray) : Option (List (ByteArray × Bool)) := (some (([] : List ByteArray) : List ByteArray)).bind fun y548 => (if y548.length + l1.length < 8796093022208 then (impl_closure.l0 k l0 (([] : List (ByteArray × Bool))) (y548 ++ l1)) else (none))
theorem impl_closure.calls (k : Nat) (A0 : Option Addr) (c0 : Nat) (l0 : List (S55)) (A1 : Option Addr) (c1 : Nat) (l1 : List ByteArray) (r : List (ByteArray × Bool)) (w : World) (hr0 : Kd.C k55 w A0 l0.length l0) (hc0 : l0.length ≤ c0) (hr1 : Kd.C Kd.string w A1 l1.length l1) (hc1 : l1.length ≤ c1) (h : impl_closure.f k l0 l1 = some r) :
 Calls Tryz.prog 40 #[.slice A0 l0.length c0, .slice A1 l1.length c1] w fun e w' => ∃ gm_ : Nat, e = .returned (.map (some gm_)) ∧ MapAt (kkStr Tryz.prog 9 Tryz.underlying9) ekBool w' gm_ r ∧ w.heap.size ≤ gm_ ∧ Below w.heap.size w w' := by
 have HR0 := Aside0.mk hr0
 have HC0 := Aside0.mk hc0
 clear hr0 hc0
 have HR1 := Aside0.mk hr1
 have HC1 := Aside0.mk hc1
 clear hr1 hc1
 have HB := Aside0.mk (Below.refl w.heap.size w)
 have H : ((some (([] : List ByteArray) : List ByteArray)).bind fun y548 => (if y548.length + l1.length < 8796093022208 then (impl_closure.l0 k l0 (([] : List (ByteArray × Bool))) (y548 ++ l1)) else (none))) = some r := h
 clear h
 obtain ⟨y545, hy545⟩ : ∃ y_ : List (ByteArray × Bool), y_ = (([] : List (ByteArray × Bool))) := ⟨_, rfl⟩
 replace H : ((some (([] : List ByteArray) : List ByteArray)).bind fun y548 => (if y548.length + l1.length < 8796093022208 then (impl_closure.l0 k l0 y545 (y548 ++ l1)) else (none))) = some r := rH_ hy545 H
 have Ny545 := Aside0.mk hy545
 clear hy545
 obtain ⟨y548, hy548⟩ : ∃ y_ : List ByteArray, y_ = (([] : List ByteArray)) := ⟨_, rfl⟩
 replace H : (if y548.length + l1.length < 8796093022208 then (impl_closure.l0 k l0 y545 (y548 ++ l1)) else (none)) = some r := rH_ hy548 H
 have Ny548 := Aside0.mk hy548
 clear hy548
 by_cases c3 : y548.length + l1.length < 8796093022208
 {
 rw [if_pos c3] at H
 have LMc3 := Aside0.mk c3
 clear c3
 obtain ⟨y551, hy551⟩ : ∃ y_ : List ByteArray, y_ = (y548 ++ l1) := ⟨_, rfl⟩
 replace H : (impl_closure.l0 k l0 y545 y551) = some r := rH_ hy551 H
 have Ny551 := Aside0.mk hy551
 clear hy551
 have H' := Aside0.mk H
 clear H
 go_enter Tryz.func40, Tryz.ntmps40
 go_wp2_with (first | ((with_reducible refine gate_dst (N := 9) rfl ?_); (try (refine gate_guard (by rfl) ?_; dsimp only)); refine map_new (kkStr Tryz.prog 9 Tryz.underlying9) ekBool rfl (N := 9) rfl 66 rfl ?_; intro gm547 gg5 w4 hmp hb; rw [← Ny545.out] at hmp; have HM546 := Aside0.mk (hmp); have GMgm547 := Aside0.mk (ge_ gg5 (bw_ HB)); replace HB := Aside0.mk (below_step (bw_ HB) hb); clear hb hmp gg5) | ((with_reducible refine gate_dst (N := 10) rfl ?_); (try (refine gate_guard (by rfl) ?_; dsimp only)); refine Kd.R_lit Kd.string _ 9 ?hg (N := 10) ?hd (xs := ([] : List ByteArray)) (inner := []) (ok := fun _ => True) (okp := fun _ => True) ?hr ?hp (fun _ hk => hk) trivial (Below.refl _ _) (Nat.le_refl _) (by simp) ?_; (case hd => rfl); (case hg => rfl); (case hr => first | (go_simp; done) | (go_simp; rfl)); (case hp => exact (Reps.none _ _)); intro v549 w6 ho7 hb hg_ hnew_; clear hg_ hnew_; (first | rw [← Ny548.out] at ho7 | (simp only [Int.reduceToNat] at ho7; rw [← Ny548.out] at ho7)); have HO550 := Aside0.mk (Kd.R_lower ho7 (below_size (bw_ HB))); replace HM546 := Aside0.mk (MapAt.below (mp_ HM546) hb); replace HB := Aside0.mk (below_step (bw_ HB) hb); clear hb ho7) | ((with_reducible refine gate_builtin (b := .append) (xs := #[.tmp 10, .tmp 11]) rfl ?_); (try (refine gate_guard (by rfl) ?_; dsimp only)); at_builtin; refine Kd.R_append_rows Kd.string (w0 := w) w.heap.size rfl (.tmp 10) (.tmp 11) 29 9 (.string ⟨#[]⟩) 16 rfl Tryz.underlying29 info9 rfl (by decide) (by omega) v549 y548 l1 _ _ _ (fun _ => True) (fun _ => False) rfl rfl ?aO ?aR (fun _ _ h => h) (fun _ h => h.elim) ?aF ?aB ?aS ?aL ?_; (case aR => exact cS_ HR1 HB); (case aB => exact (bw_ HB)); (case aF => exact (fun _ _ => trivial)); (case aO => exact (kr_ HO550)); (case aS => exact (below_size (bw_ HB))); (case aL => have := LMc3.out; omega); intro v552 w8 ho hb hg hat; rw [← Ny551.out] at ho; replace HM546 := Aside0.mk (MapAt.grown (mp_ HM546) (Kd.R_typed (kr_ HO550)) hg); replace HB := Aside0.mk (hb); have HO553 := Aside0.mk (ho); clear HO550; clear ho hb hg hat))
 go_loopg [6] k (fun kq v6 w' => ∃ (x5_1 : List (ByteArray × Bool)) (x6_1 : List ByteArray), Aside0 (impl_closure.l0 kq l0 x5_1 x6_1 = some r) ∧ Aside0 (kq ≤ k) ∧ Aside0 (Kd.R Kd.string 9 w' w.heap.size (fun _ => True) v6 x6_1) ∧ Aside0 (MapAt (kkStr Tryz.prog 9 Tryz.underlying9) ekBool w' gm547 x5_1) ∧ Aside0 (Below w.heap.size w w'))
 case atStart => exact ⟨(y545), (y551), H', ⟨Nat.le_refl _⟩, ⟨kr_ HO553⟩, ⟨mp_ HM546⟩, ⟨bw_ HB⟩⟩
 case round =>
  clear H'
  try clear c1
  try clear p2
  try clear c3
  try clear c4
  obtain ⟨x5_1, x6_1, HA, HK1, HO_6, HM_5, HB⟩ := hrel
  cases gk with
  | zero => exact absurd HA.out (by simp [impl_closure.l0])
  | succ k1 =>
       have H := HA.out
       clear HA
       simp only [impl_closure.l0] at H
       by_cases c9 : (x6_1.length : Int) > 0
       {
       rw [if_pos c9] at H
       have c9b0 : decide (0 < (x6_1.length : Int)) = true := decide_eq_true c9
       have c9b1 : decide (0 < x6_1.length) = true := decide_eq_true (by omega)
       clear c9
       obtain ⟨ji10, hji10⟩ : ∃ j_ : Int, (wrap64 ((x6_1.length : Int) - 1)) = j_ := ⟨_, rfl⟩
       replace H : (if 0 ≤ (ji10) then (if (ji10) < (x6_1.length : Int) then (if (ji10) ≤ (x6_1.length : Int) then ((some (x6_1.take ((ji10) : Int).toNat : List ByteArray)).bind fun y555 => ((impl_itemOf.f k1 l0 (rdOf ByteArray.empty x6_1 (ji10))).bind fun t558 => (if t558 < 0 then (impl_closure.l0 k1 l0 x5_1 y555) else (if (rdOf ByteArray.empty x6_1 (ji10)).size ≤ 9223372036854775807 then (if (mgetD false x5_1 (rdOf ByteArray.empty x6_1 (ji10))) = true then (impl_closure.l0 k1 l0 x5_1 y555) else (if x5_1.length < 1099511627776 then (if 0 ≤ t558 then (if t558 < (l0.length : Int) then (if y555.length + ((rd_T55 l0 t558).f2).length < 8796093022208 then (impl_closure.l0 k1 l0 (x5_1 ++ [(rdOf ByteArray.empty x6_1 (ji10), true)]) (y555 ++ ((rd_T55 l0 t558).f2))) else (none)) else (none)) else (none)) else (none))) else (none))))) else (none)) else (none)) else (none)) = some r := by first | (rw [hji10] at H; exact H) | (simp only [hji10] at H ⊢; exact H)
       have hji10w : (IntKind.i64.wrap ((x6_1.length : Int) - 1)) = ji10 := (i64_w _).trans hji10
       by_cases c11 : 0 ≤ (ji10)
       {
       rw [if_pos c11] at H
       have c11b0 := decide_eq_true c11
       clear c11
       by_cases c12 : (ji10) < (x6_1.length : Int)
       {
       rw [if_pos c12] at H
       have c12b0 := decide_eq_true c12
       clear c12
       by_cases c13 : (ji10) ≤ (x6_1.length : Int)
       {
       rw [if_pos c13] at H
       have c13b0 := eq_true c13
       have c13b1 := decide_eq_true c13
       clear c13
       obtain ⟨y555, hy555⟩ : ∃ y_ : List ByteArray, y_ = (x6_1.take ((ji10) : Int).toNat) := ⟨_, rfl⟩
       replace H : ((impl_itemOf.f k1 l0 (rdOf ByteArray.empty x6_1 (ji10))).bind fun t558 => (if t558 < 0 then (impl_closure.l0 k1 l0 x5_1 y555) else (if (rdOf ByteArray.empty x6_1 (ji10)).size ≤ 9223372036854775807 then (if (mgetD false x5_1 (rdOf ByteArray.empty x6_1 (ji10))) = true then (impl_closure.l0 k1 l0 x5_1 y555) else (if x5_1.length < 1099511627776 then (if 0 ≤ t558 then (if t558 < (l0.length : Int) then (if y555.length + ((rd_T55 l0 t558).f2).length < 8796093022208 then (impl_closure.l0 k1 l0 (x5_1 ++ [(rdOf ByteArray.empty x6_1 (ji10), true)]) (y555 ++ ((rd_T55 l0 t558).f2))) else (none)) else (none)) else (none)) else (none))) else (none)))) = some r := rH_ hy555 H
       have Ny555 := Aside0.mk hy555
       clear hy555
       replace H := Option.bind_eq_some_iff.mp H
       obtain ⟨t558, A140, H⟩ := H
       have A14 := Aside0.mk A140
       clear A140
       by_cases c15 : t558 < 0
       {
       rw [if_pos c15] at H
       have c15b0 := decide_eq_true c15
       clear c15
       have H' := Aside0.mk H
       clear H
       obtain ⟨Ao16, co16, eo16⟩ := Kd.R_slice HO_6.out
       subst eo16
       have p554 : 0 ≤ ((ji10) : Int) := dA_
       have q554 : (ji10) < (x6_1.length : Int) := dA_
       obtain ⟨ad554, e554, hx554_0⟩ := Kd.at_string (Kd.R_reads' HO_6.out).2.2 (ji10) p554 q554
       cases e554
       replace p554 := eq_true p554
       replace q554 := eq_true q554
       have q17 : ((ji10) : Int) ≤ ((x6_1.length : Int) : Int) := dA_
       obtain ⟨i017, hi017, _, hsz17, _⟩ := info_parts info9
       have hcut17 := cut_to (P := Tryz.prog) 29 9 .i64 Tryz.underlying29 hi017 (some ad554) x6_1.length co16 (ji10) (dA_) q17 (Kd.R_reads' HO_6.out).2.1
       have hr17 := Kd.R_take (m := ((ji10) : Int).toNat) HO_6.out (by omega)
       have hy17 : y555.length = ((ji10) : Int).toNat := (by rw [Ny555.out, List.length_take]; omega)
       rw [← Ny555.out] at hr17
       rw [← hy17] at hr17 hcut17
       clear hy17 hi017 hsz17 HO_6
       have HO557 := Aside0.mk hr17
       clear hr17
       replace q17 := eq_true q17
       go_wp2_with (first | ((with_reducible refine gate_callee (f := 61) rfl ?_); refine goesL_ (some 29) rfl rfl Tryz.func61 (by kernel_rfl) rfl #[.slice A0 l0.length c0, .string (rdOf ByteArray.empty x6_1 (ji10))] rfl (by (try simp only [List.map_toArray, List.map_cons, List.map_nil]); first | done | (simp only [hji10]; rfl) | rfl | (simp only [List.length_drop, List.length_take]; rfl)) ?_; (with_reducible refine (impl_itemOf.calls k1 _ _ l0 (rdOf ByteArray.empty x6_1 (ji10)) t558 _ ?side1 ?side2 A14.out).mono ?_); (case side1 => exact cS_ HR0 HB); (case side2 => exact HC0.out); rintro e w18 ⟨rfl, hb⟩; refine ⟨_, rfl, ?_⟩; replace HO557 := Aside0.mk (Kd.R_below (kr_ HO557) hb); replace HM_5 := Aside0.mk (MapAt.below (mp_ HM_5) hb); replace HB := Aside0.mk (below_step (bw_ HB) hb); clear hb))
       go_roundg k1
       case measure => have := HK1.out; omega
       case rel => exact ⟨(x5_1), (y555), H', ⟨by have := HK1.out; omega⟩, ⟨kr_ HO557⟩, ⟨mp_ HM_5⟩, ⟨bw_ HB⟩⟩}
       {
       rw [if_neg c15] at H
       have c15b0 := decide_eq_false c15
       clear c15
       by_cases c19 : (rdOf ByteArray.empty x6_1 (ji10)).size ≤ 9223372036854775807
       {
       rw [if_pos c19] at H
       have c19b0 := eq_true c19
       have c19b1 := decide_eq_true c19
       try have c19b2 : (9223372036854775807 < (rdOf ByteArray.empty x6_1 (ji10)).size) = False := eq_false (Nat.not_lt.2 c19)
       clear c19
       by_cases c20 : (mgetD false x5_1 (rdOf ByteArray.empty x6_1 (ji10))) = true
       {
       rw [if_pos c20] at H
       have c20b0 : (mgetD false x5_1 (rdOf ByteArray.empty x6_1 (ji10))) = true := c20
       clear c20
       have H' := Aside0.mk H
       clear H
       obtain ⟨Ao21, co21, eo21⟩ := Kd.R_slice HO_6.out
       subst eo21
       have p554 : 0 ≤ ((ji10) : Int) := dA_
       have q554 : (ji10) < (x6_1.length : Int) := dA_
       obtain ⟨ad554, e554, hx554_0⟩ := Kd.at_string (Kd.R_reads' HO_6.out).2.2 (ji10) p554 q554
       cases e554
       replace p554 := eq_true p554
       replace q554 := eq_true q554
       have q22 : ((ji10) : Int) ≤ ((x6_1.length : Int) : Int) := dA_
       obtain ⟨i022, hi022, _, hsz22, _⟩ := info_parts info9
       have hcut22 := cut_to (P := Tryz.prog) 29 9 .i64 Tryz.underlying29 hi022 (some ad554) x6_1.length co21 (ji10) (dA_) q22 (Kd.R_reads' HO_6.out).2.1
       have hr22 := Kd.R_take (m := ((ji10) : Int).toNat) HO_6.out (by omega)
       have hy22 : y555.length = ((ji10) : Int).toNat := (by rw [Ny555.out, List.length_take]; omega)
       rw [← Ny555.out] at hr22
       rw [← hy22] at hr22 hcut22
       clear hy22 hi022 hsz22 HO_6
       have HO557 := Aside0.mk hr22
       clear hr22
       replace q22 := eq_true q22
       go_wp2_with (first | ((with_reducible refine gate_callee (f := 61) rfl ?_); refine goesL_ (some 29) rfl rfl Tryz.func61 (by kernel_rfl) rfl #[.slice A0 l0.length c0, .string (rdOf ByteArray.empty x6_1 (ji10))] rfl (by (try simp only [List.map_toArray, List.map_cons, List.map_nil]); first | done | (simp only [hji10]; rfl) | rfl | (simp only [List.length_drop, List.length_take]; rfl)) ?_; (with_reducible refine (impl_itemOf.calls k1 _ _ l0 (rdOf ByteArray.empty x6_1 (ji10)) t558 _ ?side1 ?side2 A14.out).mono ?_); (case side1 => exact cS_ HR0 HB); (case side2 => exact HC0.out); rintro e w23 ⟨rfl, hb⟩; refine ⟨_, rfl, ?_⟩; replace HO557 := Aside0.mk (Kd.R_below (kr_ HO557) hb); replace HM_5 := Aside0.mk (MapAt.below (mp_ HM_5) hb); replace HB := Aside0.mk (below_step (bw_ HB) hb); clear hb) | ((with_reducible refine gate_dst (N := 35) rfl ?_); (try (refine gate_guard (by rfl) ?_; dsimp only)); refine map_look (kkStr Tryz.prog 9 Tryz.underlying9) ekBool rfl (N := 35) rfl 66 4 _ _ rfl false Tryz.underlying66 rfl gm547 x5_1 (rdOf ByteArray.empty x6_1 (ji10)) rfl rfl (show (rdOf ByteArray.empty x6_1 (ji10)).size ≤ 9223372036854775807 from by first | assumption | exact of_eq_true (by assumption) | exact of_decide_eq_true (by assumption) | decide | omega) (mp_ HM_5) ?_; dsimp only [ekI64, ekBool]; (try go_simp)))
       go_roundg k1
       case measure => have := HK1.out; omega
       case rel => exact ⟨(x5_1), (y555), H', ⟨by have := HK1.out; omega⟩, ⟨kr_ HO557⟩, ⟨mp_ HM_5⟩, ⟨bw_ HB⟩⟩}
       {
       rw [if_neg c20] at H
       have c20b0 : (mgetD false x5_1 (rdOf ByteArray.empty x6_1 (ji10))) = false := by simpa using c20
       clear c20
       by_cases c24 : x5_1.length < 1099511627776
       {
       rw [if_pos c24] at H
       have LMc24 := Aside0.mk c24
       clear c24
       have c25b0 := eq_true (dA_ : (rdOf ByteArray.empty x6_1 (ji10)).size ≤ 9223372036854775807)
       obtain ⟨y559, hy559⟩ : ∃ y_ : List (ByteArray × Bool), y_ = (x5_1 ++ [(rdOf ByteArray.empty x6_1 (ji10), true)]) := ⟨_, rfl⟩
       replace H : (if 0 ≤ t558 then (if t558 < (l0.length : Int) then (if y555.length + ((rd_T55 l0 t558).f2).length < 8796093022208 then (impl_closure.l0 k1 l0 y559 (y555 ++ ((rd_T55 l0 t558).f2))) else (none)) else (none)) else (none)) = some r := rH_ hy559 H
       have Ny559 := Aside0.mk hy559
       clear hy559
       by_cases c26 : 0 ≤ t558
       {
       rw [if_pos c26] at H
       have c26b0 := decide_eq_true c26
       clear c26
       by_cases c27 : t558 < (l0.length : Int)
       {
       rw [if_pos c27] at H
       have c27b0 := decide_eq_true c27
       clear c27
       by_cases c28 : y555.length + ((rd_T55 l0 t558).f2).length < 8796093022208
       {
       rw [if_pos c28] at H
       have LMc28 := Aside0.mk c28
       clear c28
       obtain ⟨y561, hy561⟩ : ∃ y_ : List ByteArray, y_ = (y555 ++ ((rd_T55 l0 t558).f2)) := ⟨_, rfl⟩
       replace H : (impl_closure.l0 k1 l0 y559 y561) = some r := rH_ hy561 H
       have Ny561 := Aside0.mk hy561
       clear hy561
       have H' := Aside0.mk H
       clear H
       obtain ⟨Ao29, co29, eo29⟩ := Kd.R_slice HO_6.out
       subst eo29
       have p554 : 0 ≤ ((ji10) : Int) := dA_
       have q554 : (ji10) < (x6_1.length : Int) := dA_
       obtain ⟨ad554, e554, hx554_0⟩ := Kd.at_string (Kd.R_reads' HO_6.out).2.2 (ji10) p554 q554
       cases e554
       replace p554 := eq_true p554
       replace q554 := eq_true q554
       have q30 : ((ji10) : Int) ≤ ((x6_1.length : Int) : Int) := dA_
       obtain ⟨i030, hi030, _, hsz30, _⟩ := info_parts info9
       have hcut30 := cut_to (P := Tryz.prog) 29 9 .i64 Tryz.underlying29 hi030 (some ad554) x6_1.length co29 (ji10) (dA_) q30 (Kd.R_reads' HO_6.out).2.1
       have hr30 := Kd.R_take (m := ((ji10) : Int).toNat) HO_6.out (by omega)
       have hy30 : y555.length = ((ji10) : Int).toNat := (by rw [Ny555.out, List.length_take]; omega)
       rw [← Ny555.out] at hr30
       rw [← hy30] at hr30 hcut30
       clear hy30 hi030 hsz30 HO_6
       have HO557 := Aside0.mk hr30
       clear hr30
       replace q30 := eq_true q30
       go_wp2_with (first | ((with_reducible refine gate_callee (f := 61) rfl ?_); refine goesL_ (some 29) rfl rfl Tryz.func61 (by kernel_rfl) rfl #[.slice A0 l0.length c0, .string (rdOf ByteArray.empty x6_1 (ji10))] rfl (by (try simp only [List.map_toArray, List.map_cons, List.map_nil]); first | done | (simp only [hji10]; rfl) | rfl | (simp only [List.length_drop, List.length_take]; rfl)) ?_; (with_reducible refine (impl_itemOf.calls k1 _ _ l0 (rdOf ByteArray.empty x6_1 (ji10)) t558 _ ?side1 ?side2 A14.out).mono ?_); (case side1 => exact cS_ HR0 HB); (case side2 => exact HC0.out); rintro e w31 ⟨rfl, hb⟩; refine ⟨_, rfl, ?_⟩; replace HO557 := Aside0.mk (Kd.R_below (kr_ HO557) hb); replace HM_5 := Aside0.mk (MapAt.below (mp_ HM_5) hb); replace HB := Aside0.mk (below_step (bw_ HB) hb); clear hb) | ((with_reducible refine gate_dst (N := 35) rfl ?_); (try (refine gate_guard (by rfl) ?_; dsimp only)); refine map_look (kkStr Tryz.prog 9 Tryz.underlying9) ekBool rfl (N := 35) rfl 66 4 _ _ rfl false Tryz.underlying66 rfl gm547 x5_1 (rdOf ByteArray.empty x6_1 (ji10)) rfl rfl (show (rdOf ByteArray.empty x6_1 (ji10)).size ≤ 9223372036854775807 from by first | assumption | exact of_eq_true (by assumption) | exact of_decide_eq_true (by assumption) | decide | omega) (mp_ HM_5) ?_; dsimp only [ekI64, ekBool]; (try go_simp)) | ((with_reducible refine gate_put (t := 66) (p := 37) rfl ?_); (try (refine gate_guard (by rfl) ?_; dsimp only)); refine map_put (kkStr Tryz.prog 9 Tryz.underlying9) ekBool rfl 66 4 37 _ _ rfl Tryz.underlying66 gm547 x5_1 (rdOf ByteArray.empty x6_1 (ji10)) true rfl rfl (show (rdOf ByteArray.empty x6_1 (ji10)).size ≤ 9223372036854775807 from by first | assumption | exact of_eq_true (by assumption) | exact of_decide_eq_true (by assumption) | decide | omega) rfl (mp_ HM_5) LMc24.out ?_; intro w32 hmp hg; rw [← Ny559.out] at hmp; replace HO557 := Aside0.mk (far_row (mp_ HM_5) hg (kr_ HO557)); replace HM_5 := Aside0.mk (hmp); replace HB := Aside0.mk (far_below GMgm547.out (below_size (bw_ HB)) hg (bw_ HB)); clear hmp hg; have p560 : 0 ≤ (t558 : Int) := dA_; have q560 : t558 < (l0.length : Int) := dA_; obtain ⟨ad560, A560_2, c560_2, A560_4, c560_4, e560, hx560_0, hx560_1, hx560_2, hx560_3, hx560_4, hl560_2, hi560_2, hl560_4, hi560_4⟩ := at_T55 HR0.out t558 p560 q560; cases e560; replace hx560_0 := hX_ HB hx560_0; replace hx560_1 := hX_ HB hx560_1; replace hx560_2 := hX_ HB hx560_2; replace hx560_3 := hX_ HB hx560_3; replace hx560_4 := hX_ HB hx560_4; have HR560_2 := Aside0.mk hi560_2; have HC560_2 := Aside0.mk hl560_2; clear hi560_2 hl560_2; have HR560_4 := Aside0.mk hi560_4; have HC560_4 := Aside0.mk hl560_4; clear hi560_4 hl560_4; replace p560 := eq_true p560; replace q560 := eq_true q560) | ((with_reducible refine gate_builtin (b := .append) (xs := #[.tmp 39, .tmp 44]) rfl ?_); (try (refine gate_guard (by rfl) ?_; dsimp only)); at_builtin; refine Kd.R_append_rows Kd.string (w0 := w) w.heap.size rfl (.tmp 39) (.tmp 44) 29 9 (.string ⟨#[]⟩) 16 rfl Tryz.underlying29 info9 rfl (by decide) (by omega) (.slice (some ad554) y555.length co29) y555 ((rd_T55 l0 t558).f2) _ _ _ (fun _ => True) (fun _ => False) rfl rfl ?aO ?aR (fun _ _ h => h) (fun _ h => h.elim) ?aF ?aB ?aS ?aL ?_; (case aR => exact cS_ HR560_2 HB); (case aB => exact (bw_ HB)); (case aF => exact (fun _ _ => trivial)); (case aO => exact (kr_ HO557)); (case aS => exact (below_size (bw_ HB))); (case aL => have := LMc28.out; omega); intro v562 w33 ho hb hg hat; rw [← Ny561.out] at ho; replace HM_5 := Aside0.mk (MapAt.grown (mp_ HM_5) (Kd.R_typed (kr_ HO557)) hg); replace HB := Aside0.mk (hb); have HO563 := Aside0.mk (ho); clear HO557; clear ho hb hg hat))
       go_roundg k1
       case measure => have := HK1.out; omega
       case rel => exact ⟨(y559), (y561), H', ⟨by have := HK1.out; omega⟩, ⟨kr_ HO563⟩, ⟨mp_ HM_5⟩, ⟨bw_ HB⟩⟩}
       {
       rw [if_neg c28] at H
       exact absurd H (by simp)}}
       {
       rw [if_neg c27] at H
       exact absurd H (by simp)}}
       {
       rw [if_neg c26] at H
       exact absurd H (by simp)}}
       {
       rw [if_neg c24] at H
       exact absurd H (by simp)}}}
       {
       rw [if_neg c19] at H
       exact absurd H (by simp)}}}
       {
       rw [if_neg c13] at H
       exact absurd H (by simp)}}
       {
       rw [if_neg c12] at H
       exact absurd H (by simp)}}
       {
       rw [if_neg c11] at H
       exact absurd H (by simp)}}
       {
       rw [if_neg c9] at H
       have c9b0 : decide (0 < (x6_1.length : Int)) = false := decide_eq_false c9
       (try (have c9b0' := c9b0; simp only [hl560_4] at c9b0'))
       have c9b1 : decide (0 < x6_1.length) = false := decide_eq_false (by omega)
       (try (have c9b1' := c9b1; simp only [hl560_4] at c9b1'))
       clear c9
       obtain rfl := Option.some.inj H
       obtain ⟨Ao34, co34, eo34⟩ := Kd.R_slice HO_6.out
       subst eo34
       go_wp2
       go_ret
       exact ⟨_, eR_, mp_ HM_5, GMgm547.out, bw_ HB⟩}}
 {
 rw [if_neg c3] at H
 exact absurd H (by simp)
}
def impl_UsedBy.l0 : Nat → List (S55) → ByteArray → List ByteArray → List (S55) → Int → Int → Option (List ByteArray)
 | 0, _, _, _, _, _, _ => none
 | k + 1, x0, x1, x5, x13, x14, x15 => if x15 < x14 then (if 0 ≤ x15 then (if x15 < (x13.length : Int) then ((impl_closure.f k x0 (([(rd_T55 x13 x15).f0] : List ByteArray))).bind fun t573 => (if x1.size ≤ 9223372036854775807 then (if (mgetD false t573 x1) = true then (if x5.length < 8796093022208 then (impl_UsedBy.l0 k x0 x1 (x5 ++ [(rd_T55 x13 x15).f0]) x13 x14 (wrap64 (x15 + 1))) else (none)) else (impl_UsedBy.l0 k x0 x1 x5 x13 x14 (wrap64 (x15 + 1)))) else (none))) else (none)) else (none)) else (some x5)
def impl_UsedBy.f (k : Nat) (l0 : List (S55)) (a1 : ByteArray) : Option (List ByteArray) := (some (([] : List ByteArray) : List ByteArray)).bind fun y564 => ((impl_StoreOk.f k l0).bind fun t567 => (if t567 = true then (impl_UsedBy.l0 k l0 a1 y564 l0 (l0.length : Int) 0) else (some y564)))
theorem impl_UsedBy.calls (k : Nat) (A0 : Option Addr) (c0 : Nat) (l0 : List (S55)) (a1 : ByteArray) (r : List ByteArray) (w : World) (hE : EnvW w) (hr0 : Kd.C k55 w A0 l0.length l0) (hc0 : l0.length ≤ c0) (h : impl_UsedBy.f k l0 a1 = some r) :
 Calls Tryz.prog 14 #[.slice A0 l0.length c0, .string a1] w fun e w' => ∃ v0_ : Value, e = .returned (v0_) ∧ Kd.R Kd.string 9 w' w.heap.size (fun _ => True) v0_ r ∧ Below w.heap.size w w' := by
 have hu55 := Tryz.underlying55
 have HE := Aside0.mk hE
 clear hE
 have HR0 := Aside0.mk hr0
 have HC0 := Aside0.mk hc0
 clear hr0 hc0
 have HB := Aside0.mk (Below.refl w.heap.size w)
 have H : ((some (([] : List ByteArray) : List ByteArray)).bind fun y564 => ((impl_StoreOk.f k l0).bind fun t567 => (if t567 = true then (impl_UsedBy.l0 k l0 a1 y564 l0 (l0.length : Int) 0) else (some y564)))) = some r := h
 clear h
 obtain ⟨y564, hy564⟩ : ∃ y_ : List ByteArray, y_ = (([] : List ByteArray)) := ⟨_, rfl⟩
 replace H : ((impl_StoreOk.f k l0).bind fun t567 => (if t567 = true then (impl_UsedBy.l0 k l0 a1 y564 l0 (l0.length : Int) 0) else (some y564))) = some r := rH_ hy564 H
 have Ny564 := Aside0.mk hy564
 clear hy564
 replace H := Option.bind_eq_some_iff.mp H
 obtain ⟨t567, A30, H⟩ := H
 have A3 := Aside0.mk A30
 clear A30
 by_cases c4 : t567 = true
 {
 subst c4
 rw [if_pos rfl] at H
 have H' := Aside0.mk H
 clear H
 go_enter Tryz.func14, Tryz.ntmps14
 go_wp2_with (first | ((with_reducible refine gate_dst (N := 8) rfl ?_); refine Kd.R_lit Kd.string _ 9 ?hg (N := 8) ?hd (xs := ([] : List ByteArray)) (inner := []) (ok := fun _ => True) (okp := fun _ => True) ?hr ?hp (fun _ hk => hk) trivial (Below.refl _ _) (Nat.le_refl _) (by simp) ?_; (case hd => rfl); (case hg => rfl); (case hr => first | (go_simp; done) | (go_simp; rfl)); (case hp => exact (Reps.none _ _)); intro v565 w5 ho6 hb hg_ hnew_; clear hg_ hnew_; (first | rw [← Ny564.out] at ho6 | (simp only [Int.reduceToNat] at ho6; rw [← Ny564.out] at ho6)); have HO566 := Aside0.mk (Kd.R_lower ho6 (below_size (bw_ HB))); replace HB := Aside0.mk (below_step (bw_ HB) hb); clear hb ho6) | ((with_reducible refine gate_callee (f := 35) rfl ?_); refine gL_ (some 10) Tryz.func35 #[.slice A0 l0.length c0] ?_; (with_reducible refine (impl_StoreOk.calls k _ _ l0 true _ ?side1 ?side2 ?side3 A3.out).mono ?_); (case side1 => refine EnvW.below HE.out ?_; repeat (first | (with_reducible first | exact HB.out | apply below_alloc | apply pw_below_drewN | apply below_drew1) | exact HB.out)); (case side2 => exact cS_ HR0 HB); (case side3 => exact HC0.out); rintro e w7 ⟨rfl, hb⟩; refine ⟨_, rfl, ?_⟩; replace HO566 := Aside0.mk (Kd.R_below (kr_ HO566) hb); replace HB := Aside0.mk (below_step (bw_ HB) hb); clear hb))
 go_loopg [5, 15] k (fun kq v5 v15 w' => ∃ (x5_1 : List ByteArray) (x15_1 : Int), v15 = .int .i64 x15_1 ∧ Aside0 (impl_UsedBy.l0 kq l0 a1 x5_1 l0 (l0.length : Int) x15_1 = some r) ∧ Aside0 (kq ≤ k) ∧ Aside0 (Kd.R Kd.string 9 w' w.heap.size (fun _ => True) v5 x5_1) ∧ Aside0 (Below w.heap.size w w'))
 case atStart => exact ⟨(y564), (0), (by first | rfl | (simp; done) | (simp [*]; done)), H', ⟨Nat.le_refl _⟩, ⟨kr_ HO566⟩, ⟨bw_ HB⟩⟩
 case round =>
  clear H'
  try clear c1
  try clear p2
  try clear c3
  try clear c4
  obtain ⟨x5_1, x15_1, rfl, HA, HK1, HO_5, HB⟩ := hrel
  cases gk with
  | zero => exact absurd HA.out (by simp [impl_UsedBy.l0])
  | succ k1 =>
       have H := HA.out
       clear HA
       simp only [impl_UsedBy.l0] at H
       by_cases c8 : x15_1 < (l0.length : Int)
       {
       rw [if_pos c8] at H
       have c8b0 := decide_eq_true c8
       clear c8
       by_cases c9 : 0 ≤ x15_1
       {
       rw [if_pos c9] at H
       have c9b0 := decide_eq_true c9
       clear c9
       by_cases c10 : x15_1 < (l0.length : Int)
       {
       rw [if_pos c10] at H
       have c10b0 := decide_eq_true c10
       clear c10
       obtain ⟨y570, hy570⟩ : ∃ y_ : List ByteArray, y_ = (([(rd_T55 l0 x15_1).f0] : List ByteArray)) := ⟨_, rfl⟩
       replace H : ((impl_closure.f k1 l0 y570).bind fun t573 => (if a1.size ≤ 9223372036854775807 then (if (mgetD false t573 a1) = true then (if x5_1.length < 8796093022208 then (impl_UsedBy.l0 k1 l0 a1 (x5_1 ++ [(rd_T55 l0 x15_1).f0]) l0 (l0.length : Int) (wrap64 (x15_1 + 1))) else (none)) else (impl_UsedBy.l0 k1 l0 a1 x5_1 l0 (l0.length : Int) (wrap64 (x15_1 + 1)))) else (none))) = some r := rH_ hy570 H
       have Ny570 := Aside0.mk hy570
       clear hy570
       replace H := Option.bind_eq_some_iff.mp H
       obtain ⟨t573, A110, H⟩ := H
       have A11 := Aside0.mk A110
       clear A110
       by_cases c12 : a1.size ≤ 9223372036854775807
       {
       rw [if_pos c12] at H
       have c12b0 := eq_true c12
       have c12b1 := decide_eq_true c12
       try have c12b2 : (9223372036854775807 < a1.size) = False := eq_false (Nat.not_lt.2 c12)
       clear c12
       by_cases c13 : (mgetD false t573 a1) = true
       {
       rw [if_pos c13] at H
       have c13b0 : (mgetD false t573 a1) = true := c13
       clear c13
       by_cases c14 : x5_1.length < 8796093022208
       {
       rw [if_pos c14] at H
       have LMc14 := Aside0.mk c14
       clear c14
       obtain ⟨y576, hy576⟩ : ∃ y_ : List ByteArray, y_ = (x5_1 ++ [(rd_T55 l0 x15_1).f0]) := ⟨_, rfl⟩
       replace H : (impl_UsedBy.l0 k1 l0 a1 y576 l0 (l0.length : Int) (wrap64 (x15_1 + 1))) = some r := rH_ hy576 H
       have Ny576 := Aside0.mk hy576
       clear hy576
       have H' := Aside0.mk H
       clear H
       have p568 : 0 ≤ (x15_1 : Int) := dA_
       have q568 : x15_1 < (l0.length : Int) := dA_
       obtain ⟨ad568, A568_2, c568_2, A568_4, c568_4, e568, hx568_0, hx568_1, hx568_2, hx568_3, hx568_4, hl568_2, hi568_2, hl568_4, hi568_4⟩ := at_T55 HR0.out x15_1 p568 q568
       cases e568
       replace hx568_0 := hX_ HB hx568_0
       replace hx568_1 := hX_ HB hx568_1
       replace hx568_2 := hX_ HB hx568_2
       replace hx568_3 := hX_ HB hx568_3
       replace hx568_4 := hX_ HB hx568_4
       have HR568_2 := Aside0.mk hi568_2
       have HC568_2 := Aside0.mk hl568_2
       clear hi568_2 hl568_2
       have HR568_4 := Aside0.mk hi568_4
       have HC568_4 := Aside0.mk hl568_4
       clear hi568_4 hl568_4
       replace p568 := eq_true p568
       replace q568 := eq_true q568
       go_wp2_with (first | ((with_reducible refine gate_dst (N := 7) rfl ?_); refine bE_ 7 #[.string (⟨#[]⟩ : ByteArray), .string (⟨#[]⟩ : ByteArray), .slice none 0 0, .string (⟨#[]⟩ : ByteArray), .slice none 0 0] 55 ?_; intro gb569 hg w15 hbox hb; replace HO_5 := Aside0.mk (Kd.R_below (kr_ HO_5) hb); have BK569 := Aside0.mk (hbox); have GW569 := Aside0.mk (ge_ hg (bw_ HB)); have GE569 := Aside0.mk (ge_ hg (bw_ HB)); replace HB := Aside0.mk (below_step (bw_ HB) hb); clear hb hbox hg; have hcz16_0 := cz_ BK569 0 (.string (⟨#[]⟩ : ByteArray)); have hcz16_1 := cz_ BK569 1 (.string (⟨#[]⟩ : ByteArray)); have hcz16_2 := cz_ BK569 2 (.slice none 0 0); have hcz16_3 := cz_ BK569 3 (.string (⟨#[]⟩ : ByteArray)); have hcz16_4 := cz_ BK569 4 (.slice none 0 0); have hfz16_0 := blk_frozen BK569.out 0; have hfz16_1 := blk_frozen BK569.out 1; have hfz16_2 := blk_frozen BK569.out 2; have hfz16_3 := blk_frozen BK569.out 3; have hfz16_4 := blk_frozen BK569.out 4) | ((with_reducible refine gate_dst (N := 22) rfl ?_); refine Kd.R_lit Kd.string _ 9 ?hg (N := 22) ?hd (xs := ([(rd_T55 l0 x15_1).f0] : List ByteArray)) (inner := [.string ((rd_T55 l0 x15_1).f0)]) (ok := fun _ => True) (okp := fun _ => True) ?hr ?hp (fun _ hk => hk) trivial (Below.refl _ _) (Nat.le_refl _) (by simp) ?_; (case hd => rfl); (case hg => rfl); (case hr => first | (go_simp; done) | (go_simp; rfl)); (case hp => exact (Reps.one (show Kd.M Kd.string _ _ _ ((rd_T55 l0 x15_1).f0) [.string ((rd_T55 l0 x15_1).f0)] from rfl) (Reps.none _ _))); intro v571 w17 ho18 hb hg_ hnew_; clear hg_ hnew_; (first | rw [← Ny570.out] at ho18 | (simp only [Int.reduceToNat] at ho18; rw [← Ny570.out] at ho18)); have HO572 := Aside0.mk (Kd.R_lower (Kd.R_new' ho18 (Kd.R_lt (by (with_reducible repeat (first | apply Kd.R_alloc | apply Kd.R_drewN | apply Kd.R_drew)); exact (Kd.R_mono (Kd.R_far (p := ⟨gb569, 4, none⟩) (Kd.R_far (p := ⟨gb569, 3, none⟩) (Kd.R_far (p := ⟨gb569, 2, none⟩) (Kd.R_far (p := ⟨gb569, 1, none⟩) (Kd.R_far (p := ⟨gb569, 0, none⟩) (Kd.R_types HO_5.out BK569.out (by decide)) (fun _ hk => hk.2) (.string ((rd_T55 l0 x15_1).f0))) (fun _ hk => hk.2) (.string ((rd_T55 l0 x15_1).f1))) (fun _ hk => hk.2) (.slice A568_2 ((rd_T55 l0 x15_1).f2).length c568_2)) (fun _ hk => hk.2) (.string ((rd_T55 l0 x15_1).f3))) (fun _ hk => hk.2) (.slice A568_4 ((rd_T55 l0 x15_1).f4).length c568_4)) (fun _ h_ => h_.1))))) (below_size (bw1_ HB GE569))); replace HO_5 := Aside0.mk (Kd.R_elder' (by (with_reducible repeat (first | apply Kd.R_alloc | apply Kd.R_drewN | apply Kd.R_drew)); exact (Kd.R_mono (Kd.R_far (p := ⟨gb569, 4, none⟩) (Kd.R_far (p := ⟨gb569, 3, none⟩) (Kd.R_far (p := ⟨gb569, 2, none⟩) (Kd.R_far (p := ⟨gb569, 1, none⟩) (Kd.R_far (p := ⟨gb569, 0, none⟩) (Kd.R_types HO_5.out BK569.out (by decide)) (fun _ hk => hk.2) (.string ((rd_T55 l0 x15_1).f0))) (fun _ hk => hk.2) (.string ((rd_T55 l0 x15_1).f1))) (fun _ hk => hk.2) (.slice A568_2 ((rd_T55 l0 x15_1).f2).length c568_2)) (fun _ hk => hk.2) (.string ((rd_T55 l0 x15_1).f3))) (fun _ hk => hk.2) (.slice A568_4 ((rd_T55 l0 x15_1).f4).length c568_4)) (fun _ h_ => h_.1))) (Kd.R_base ho18) hb); replace BK569 := Aside0.mk (blk_below (g := gb569) (o := .cells #[.string ((rd_T55 l0 x15_1).f0), .string ((rd_T55 l0 x15_1).f1), .slice A568_2 ((rd_T55 l0 x15_1).f2).length c568_2, .string ((rd_T55 l0 x15_1).f3), .slice A568_4 ((rd_T55 l0 x15_1).f4).length c568_4] 55 (0, 0)) (by (with_reducible repeat (first | refine blk_drewN ?_ _ | refine blk_drew ?_ | refine blk_alloc ?_ _)); refine blk_put (cs := #[.string ((rd_T55 l0 x15_1).f0), .string ((rd_T55 l0 x15_1).f1), .slice A568_2 ((rd_T55 l0 x15_1).f2).length c568_2, .string ((rd_T55 l0 x15_1).f3), .slice none 0 0]) ?_ 4 _ rfl; (with_reducible repeat (first | refine blk_drewN ?_ _ | refine blk_drew ?_ | refine blk_alloc ?_ _)); refine blk_put (cs := #[.string ((rd_T55 l0 x15_1).f0), .string ((rd_T55 l0 x15_1).f1), .slice A568_2 ((rd_T55 l0 x15_1).f2).length c568_2, .string (⟨#[]⟩ : ByteArray), .slice none 0 0]) ?_ 3 _ rfl; (with_reducible repeat (first | refine blk_drewN ?_ _ | refine blk_drew ?_ | refine blk_alloc ?_ _)); refine blk_put (cs := #[.string ((rd_T55 l0 x15_1).f0), .string ((rd_T55 l0 x15_1).f1), .slice none 0 0, .string (⟨#[]⟩ : ByteArray), .slice none 0 0]) ?_ 2 _ rfl; (with_reducible repeat (first | refine blk_drewN ?_ _ | refine blk_drew ?_ | refine blk_alloc ?_ _)); refine blk_put (cs := #[.string ((rd_T55 l0 x15_1).f0), .string (⟨#[]⟩ : ByteArray), .slice none 0 0, .string (⟨#[]⟩ : ByteArray), .slice none 0 0]) ?_ 1 _ rfl; (with_reducible repeat (first | refine blk_drewN ?_ _ | refine blk_drew ?_ | refine blk_alloc ?_ _)); refine blk_put (cs := #[.string (⟨#[]⟩ : ByteArray), .string (⟨#[]⟩ : ByteArray), .slice none 0 0, .string (⟨#[]⟩ : ByteArray), .slice none 0 0]) ?_ 0 _ rfl; (with_reducible repeat (first | refine blk_drewN ?_ _ | refine blk_drew ?_ | refine blk_alloc ?_ _)); exact BK569.out) hb); replace HB := Aside0.mk (below_step (bw1_ HB GE569) hb); clear hb ho18; obtain ⟨Ao19, co19, eo19⟩ := Kd.R_slice HO572.out; subst eo19) | ((with_reducible refine gate_callee (f := 40) rfl ?_); refine gL_ (some 23) Tryz.func40 #[.slice (some ad568) l0.length c0, .slice Ao19 y570.length co19] ?_; (with_reducible refine (impl_closure.calls k1 _ _ l0 _ _ y570 t573 _ ?side1 ?side2 ?side3 ?side4 A11.out).mono ?_); (case side1 => exact cS_ HR0 HB); (case side2 => exact HC0.out); (case side3 => repeat (first | exact (Kd.R_reads' HO572.out).2.2 | (with_reducible refine Kd.C_alloc ?_ _) | (with_reducible refine Kd.C_drewN ?_ _) | (with_reducible refine Kd.C_drew ?_))); (case side4 => exact (Kd.R_reads' HO572.out).2.1); rintro e w20 ⟨gm575, rfl, hmp, hmg, hb⟩; refine ⟨_, rfl, ?_⟩; replace HO_5 := Aside0.mk (Kd.R_below (kr_ HO_5) hb); replace HO572 := Aside0.mk (Kd.R_below (kr_ HO572) hb); replace BK569 := Aside0.mk (blk_below (bk_ BK569) hb); have HM574 := Aside0.mk (hmp); have GMgm575 := Aside0.mk ((Nat.le_trans (below_size (bw1_ HB GE569)) hmg : w.heap.size ≤ gm575)); replace HB := Aside0.mk (below_step (bw1_ HB GE569) hb); clear hb; (try clear hmp); (try clear hmg); have hcz21_0 := cz_ BK569 0 (.string ((rd_T55 l0 x15_1).f0)); have hcz21_1 := cz_ BK569 1 (.string ((rd_T55 l0 x15_1).f1)); have hcz21_2 := cz_ BK569 2 (.slice A568_2 ((rd_T55 l0 x15_1).f2).length c568_2); have hcz21_3 := cz_ BK569 3 (.string ((rd_T55 l0 x15_1).f3)); have hcz21_4 := cz_ BK569 4 (.slice A568_4 ((rd_T55 l0 x15_1).f4).length c568_4); have hfz21_0 := blk_frozen BK569.out 0; have hfz21_1 := blk_frozen BK569.out 1; have hfz21_2 := blk_frozen BK569.out 2; have hfz21_3 := blk_frozen BK569.out 3; have hfz21_4 := blk_frozen BK569.out 4) | ((with_reducible refine gate_dst (N := 25) rfl ?_); refine map_look (kkStr Tryz.prog 9 Tryz.underlying9) ekBool rfl (N := 25) rfl 66 4 _ _ rfl false Tryz.underlying66 rfl gm575 t573 a1 rfl rfl (show a1.size ≤ 9223372036854775807 from by first | assumption | exact of_eq_true (by assumption) | exact of_decide_eq_true (by assumption) | decide | omega) (mp_ HM574) ?_; dsimp only [ekI64, ekBool]; (try go_simp)) | ((with_reducible refine gate_builtin (b := .append) (xs := #[.tmp 26, .tmp 29]) rfl ?_); at_builtin; refine Kd.R_append Kd.string (w0 := w) w.heap.size rfl (.tmp 26) (.tmp 29) 29 9 (.string ⟨#[]⟩) 16 rfl Tryz.underlying29 info9 rfl (by decide) (by omega) u5 x5_1 ((rd_T55 l0 x15_1).f0) [.string ((rd_T55 l0 x15_1).f0)] (fun k_ => some k_ ≠ (.slice Ao19 y570.length co19 : Value).ownBlock) (fun _ => False) rfl rfl ?aP (fun _ hk => hk.elim) ?aF ?aO ?aB ?aS ?aL ?_; (case aP => exact rfl); (case aB => exact (bw1_ HB GE569)); (case aF => exact (fun k_ hk => Kd.fresh' (Kd.R_lt (kr_ HO572)) k_ hk)); (case aO => exact (by (with_reducible repeat (first | apply Kd.R_alloc | apply Kd.R_drewN | apply Kd.R_drew)); exact Kd.R_mono HO_5.out (fun _ hk => hk.2))); (case aS => exact (below_size (bw1_ HB GE569))); (case aL => have := LMc14.out; omega); intro v577 w22 ho hb hg hat; rw [← Ny576.out] at ho; replace BK569 := Aside0.mk (blk_grown (g := gb569) (o := .cells #[.string ((rd_T55 l0 x15_1).f0), .string ((rd_T55 l0 x15_1).f1), .slice A568_2 ((rd_T55 l0 x15_1).f2).length c568_2, .string ((rd_T55 l0 x15_1).f3), .slice A568_4 ((rd_T55 l0 x15_1).f4).length c568_4] 55 (0, 0)) (bk_ BK569) hg (Kd.R_ne HO_5.out BK569.out (by decide))); replace HO572 := Aside0.mk (Kd.R_after (ok := (fun _ => True)) (kr_ HO572) hg hat); replace HM574 := Aside0.mk (MapAt.grown (mp_ HM574) (Kd.R_typed (kr_ HO_5)) hg); replace HB := Aside0.mk (hb); have HO578 := Aside0.mk (ho); clear HO_5; clear ho hb hg hat))
       go_roundg k1
       case measure => have := HK1.out; omega
       case rel => exact ⟨(y576), (wrap64 (x15_1 + 1)), (by first | rfl | (simp; done) | (simp [*]; done)), H', ⟨by have := HK1.out; omega⟩, ⟨by (with_reducible repeat (first | apply Kd.R_alloc | apply Kd.R_drewN | apply Kd.R_drew)); exact Kd.R_mono HO578.out (fun _ hk => trivial)⟩, ⟨bw1_ HB GE569⟩⟩}
       {
       rw [if_neg c14] at H
       exact absurd H (by simp)}}
       {
       rw [if_neg c13] at H
       have c13b0 : (mgetD false t573 a1) = false := by simpa using c13
       clear c13
       have H' := Aside0.mk H
       clear H
       have p568 : 0 ≤ (x15_1 : Int) := dA_
       have q568 : x15_1 < (l0.length : Int) := dA_
       obtain ⟨ad568, A568_2, c568_2, A568_4, c568_4, e568, hx568_0, hx568_1, hx568_2, hx568_3, hx568_4, hl568_2, hi568_2, hl568_4, hi568_4⟩ := at_T55 HR0.out x15_1 p568 q568
       cases e568
       replace hx568_0 := hX_ HB hx568_0
       replace hx568_1 := hX_ HB hx568_1
       replace hx568_2 := hX_ HB hx568_2
       replace hx568_3 := hX_ HB hx568_3
       replace hx568_4 := hX_ HB hx568_4
       have HR568_2 := Aside0.mk hi568_2
       have HC568_2 := Aside0.mk hl568_2
       clear hi568_2 hl568_2
       have HR568_4 := Aside0.mk hi568_4
       have HC568_4 := Aside0.mk hl568_4
       clear hi568_4 hl568_4
       replace p568 := eq_true p568
       replace q568 := eq_true q568
       go_wp2_with (first | ((with_reducible refine gate_dst (N := 7) rfl ?_); refine bE_ 7 #[.string (⟨#[]⟩ : ByteArray), .string (⟨#[]⟩ : ByteArray), .slice none 0 0, .string (⟨#[]⟩ : ByteArray), .slice none 0 0] 55 ?_; intro gb569 hg w23 hbox hb; replace HO_5 := Aside0.mk (Kd.R_below (kr_ HO_5) hb); have BK569 := Aside0.mk (hbox); have GW569 := Aside0.mk (ge_ hg (bw_ HB)); have GE569 := Aside0.mk (ge_ hg (bw_ HB)); replace HB := Aside0.mk (below_step (bw_ HB) hb); clear hb hbox hg; have hcz24_0 := cz_ BK569 0 (.string (⟨#[]⟩ : ByteArray)); have hcz24_1 := cz_ BK569 1 (.string (⟨#[]⟩ : ByteArray)); have hcz24_2 := cz_ BK569 2 (.slice none 0 0); have hcz24_3 := cz_ BK569 3 (.string (⟨#[]⟩ : ByteArray)); have hcz24_4 := cz_ BK569 4 (.slice none 0 0); have hfz24_0 := blk_frozen BK569.out 0; have hfz24_1 := blk_frozen BK569.out 1; have hfz24_2 := blk_frozen BK569.out 2; have hfz24_3 := blk_frozen BK569.out 3; have hfz24_4 := blk_frozen BK569.out 4) | ((with_reducible refine gate_dst (N := 22) rfl ?_); refine Kd.R_lit Kd.string _ 9 ?hg (N := 22) ?hd (xs := ([(rd_T55 l0 x15_1).f0] : List ByteArray)) (inner := [.string ((rd_T55 l0 x15_1).f0)]) (ok := fun _ => True) (okp := fun _ => True) ?hr ?hp (fun _ hk => hk) trivial (Below.refl _ _) (Nat.le_refl _) (by simp) ?_; (case hd => rfl); (case hg => rfl); (case hr => first | (go_simp; done) | (go_simp; rfl)); (case hp => exact (Reps.one (show Kd.M Kd.string _ _ _ ((rd_T55 l0 x15_1).f0) [.string ((rd_T55 l0 x15_1).f0)] from rfl) (Reps.none _ _))); intro v571 w25 ho26 hb hg_ hnew_; clear hg_ hnew_; (first | rw [← Ny570.out] at ho26 | (simp only [Int.reduceToNat] at ho26; rw [← Ny570.out] at ho26)); have HO572 := Aside0.mk (Kd.R_lower (Kd.R_new' ho26 (Kd.R_lt (by (with_reducible repeat (first | apply Kd.R_alloc | apply Kd.R_drewN | apply Kd.R_drew)); exact (Kd.R_mono (Kd.R_far (p := ⟨gb569, 4, none⟩) (Kd.R_far (p := ⟨gb569, 3, none⟩) (Kd.R_far (p := ⟨gb569, 2, none⟩) (Kd.R_far (p := ⟨gb569, 1, none⟩) (Kd.R_far (p := ⟨gb569, 0, none⟩) (Kd.R_types HO_5.out BK569.out (by decide)) (fun _ hk => hk.2) (.string ((rd_T55 l0 x15_1).f0))) (fun _ hk => hk.2) (.string ((rd_T55 l0 x15_1).f1))) (fun _ hk => hk.2) (.slice A568_2 ((rd_T55 l0 x15_1).f2).length c568_2)) (fun _ hk => hk.2) (.string ((rd_T55 l0 x15_1).f3))) (fun _ hk => hk.2) (.slice A568_4 ((rd_T55 l0 x15_1).f4).length c568_4)) (fun _ h_ => h_.1))))) (below_size (bw1_ HB GE569))); replace HO_5 := Aside0.mk (Kd.R_elder' (by (with_reducible repeat (first | apply Kd.R_alloc | apply Kd.R_drewN | apply Kd.R_drew)); exact (Kd.R_mono (Kd.R_far (p := ⟨gb569, 4, none⟩) (Kd.R_far (p := ⟨gb569, 3, none⟩) (Kd.R_far (p := ⟨gb569, 2, none⟩) (Kd.R_far (p := ⟨gb569, 1, none⟩) (Kd.R_far (p := ⟨gb569, 0, none⟩) (Kd.R_types HO_5.out BK569.out (by decide)) (fun _ hk => hk.2) (.string ((rd_T55 l0 x15_1).f0))) (fun _ hk => hk.2) (.string ((rd_T55 l0 x15_1).f1))) (fun _ hk => hk.2) (.slice A568_2 ((rd_T55 l0 x15_1).f2).length c568_2)) (fun _ hk => hk.2) (.string ((rd_T55 l0 x15_1).f3))) (fun _ hk => hk.2) (.slice A568_4 ((rd_T55 l0 x15_1).f4).length c568_4)) (fun _ h_ => h_.1))) (Kd.R_base ho26) hb); replace BK569 := Aside0.mk (blk_below (g := gb569) (o := .cells #[.string ((rd_T55 l0 x15_1).f0), .string ((rd_T55 l0 x15_1).f1), .slice A568_2 ((rd_T55 l0 x15_1).f2).length c568_2, .string ((rd_T55 l0 x15_1).f3), .slice A568_4 ((rd_T55 l0 x15_1).f4).length c568_4] 55 (0, 0)) (by (with_reducible repeat (first | refine blk_drewN ?_ _ | refine blk_drew ?_ | refine blk_alloc ?_ _)); refine blk_put (cs := #[.string ((rd_T55 l0 x15_1).f0), .string ((rd_T55 l0 x15_1).f1), .slice A568_2 ((rd_T55 l0 x15_1).f2).length c568_2, .string ((rd_T55 l0 x15_1).f3), .slice none 0 0]) ?_ 4 _ rfl; (with_reducible repeat (first | refine blk_drewN ?_ _ | refine blk_drew ?_ | refine blk_alloc ?_ _)); refine blk_put (cs := #[.string ((rd_T55 l0 x15_1).f0), .string ((rd_T55 l0 x15_1).f1), .slice A568_2 ((rd_T55 l0 x15_1).f2).length c568_2, .string (⟨#[]⟩ : ByteArray), .slice none 0 0]) ?_ 3 _ rfl; (with_reducible repeat (first | refine blk_drewN ?_ _ | refine blk_drew ?_ | refine blk_alloc ?_ _)); refine blk_put (cs := #[.string ((rd_T55 l0 x15_1).f0), .string ((rd_T55 l0 x15_1).f1), .slice none 0 0, .string (⟨#[]⟩ : ByteArray), .slice none 0 0]) ?_ 2 _ rfl; (with_reducible repeat (first | refine blk_drewN ?_ _ | refine blk_drew ?_ | refine blk_alloc ?_ _)); refine blk_put (cs := #[.string ((rd_T55 l0 x15_1).f0), .string (⟨#[]⟩ : ByteArray), .slice none 0 0, .string (⟨#[]⟩ : ByteArray), .slice none 0 0]) ?_ 1 _ rfl; (with_reducible repeat (first | refine blk_drewN ?_ _ | refine blk_drew ?_ | refine blk_alloc ?_ _)); refine blk_put (cs := #[.string (⟨#[]⟩ : ByteArray), .string (⟨#[]⟩ : ByteArray), .slice none 0 0, .string (⟨#[]⟩ : ByteArray), .slice none 0 0]) ?_ 0 _ rfl; (with_reducible repeat (first | refine blk_drewN ?_ _ | refine blk_drew ?_ | refine blk_alloc ?_ _)); exact BK569.out) hb); replace HB := Aside0.mk (below_step (bw1_ HB GE569) hb); clear hb ho26; obtain ⟨Ao27, co27, eo27⟩ := Kd.R_slice HO572.out; subst eo27) | ((with_reducible refine gate_callee (f := 40) rfl ?_); refine gL_ (some 23) Tryz.func40 #[.slice (some ad568) l0.length c0, .slice Ao27 y570.length co27] ?_; (with_reducible refine (impl_closure.calls k1 _ _ l0 _ _ y570 t573 _ ?side1 ?side2 ?side3 ?side4 A11.out).mono ?_); (case side1 => exact cS_ HR0 HB); (case side2 => exact HC0.out); (case side3 => repeat (first | exact (Kd.R_reads' HO572.out).2.2 | (with_reducible refine Kd.C_alloc ?_ _) | (with_reducible refine Kd.C_drewN ?_ _) | (with_reducible refine Kd.C_drew ?_))); (case side4 => exact (Kd.R_reads' HO572.out).2.1); rintro e w28 ⟨gm575, rfl, hmp, hmg, hb⟩; refine ⟨_, rfl, ?_⟩; replace HO_5 := Aside0.mk (Kd.R_below (kr_ HO_5) hb); replace HO572 := Aside0.mk (Kd.R_below (kr_ HO572) hb); replace BK569 := Aside0.mk (blk_below (bk_ BK569) hb); have HM574 := Aside0.mk (hmp); have GMgm575 := Aside0.mk ((Nat.le_trans (below_size (bw1_ HB GE569)) hmg : w.heap.size ≤ gm575)); replace HB := Aside0.mk (below_step (bw1_ HB GE569) hb); clear hb; (try clear hmp); (try clear hmg)) | ((with_reducible refine gate_dst (N := 25) rfl ?_); refine map_look (kkStr Tryz.prog 9 Tryz.underlying9) ekBool rfl (N := 25) rfl 66 4 _ _ rfl false Tryz.underlying66 rfl gm575 t573 a1 rfl rfl (show a1.size ≤ 9223372036854775807 from by first | assumption | exact of_eq_true (by assumption) | exact of_decide_eq_true (by assumption) | decide | omega) (mp_ HM574) ?_; dsimp only [ekI64, ekBool]; (try go_simp)))
       go_roundg k1
       case measure => have := HK1.out; omega
       case rel => exact ⟨(x5_1), (wrap64 (x15_1 + 1)), (by first | rfl | (simp; done) | (simp [*]; done)), H', ⟨by have := HK1.out; omega⟩, ⟨by (with_reducible repeat (first | apply Kd.R_alloc | apply Kd.R_drewN | apply Kd.R_drew)); exact Kd.R_mono HO_5.out (fun _ hk => trivial)⟩, ⟨bw1_ HB GE569⟩⟩}}
       {
       rw [if_neg c12] at H
       exact absurd H (by simp)}}
       {
       rw [if_neg c10] at H
       exact absurd H (by simp)}}
       {
       rw [if_neg c9] at H
       exact absurd H (by simp)}}
       {
       rw [if_neg c8] at H
       have c8b0 := decide_eq_false c8
       (try (have c8b0' := c8b0; simp only [hl568_4] at c8b0'))
       clear c8
       obtain rfl := Option.some.inj H
       go_wp2
       go_ret
       exact ⟨_, eR_, kr_ HO_5, bw_ HB⟩}}
 {
 replace c4 := Bool.eq_false_iff.mpr c4
 subst c4
 rw [if_neg (show ¬ (false = true) by decide)] at H
 obtain rfl := Option.some.inj H
 go_enter Tryz.func14, Tryz.ntmps14
 go_wp2_with (first | ((with_reducible refine gate_dst (N := 8) rfl ?_); refine Kd.R_lit Kd.string _ 9 ?hg (N := 8) ?hd (xs := ([] : List ByteArray)) (inner := []) (ok := fun _ => True) (okp := fun _ => True) ?hr ?hp (fun _ hk => hk) trivial (Below.refl _ _) (Nat.le_refl _) (by simp) ?_; (case hd => rfl); (case hg => rfl); (case hr => first | (go_simp; done) | (go_simp; rfl)); (case hp => exact (Reps.none _ _)); intro v565 w29 ho30 hb hg_ hnew_; clear hg_ hnew_; (first | rw [← Ny564.out] at ho30 | (simp only [Int.reduceToNat] at ho30; rw [← Ny564.out] at ho30)); have HO566 := Aside0.mk (Kd.R_lower ho30 (below_size (bw_ HB))); replace HB := Aside0.mk (below_step (bw_ HB) hb); clear hb ho30) | ((with_reducible refine gate_callee (f := 35) rfl ?_); refine gL_ (some 10) Tryz.func35 #[.slice A0 l0.length c0] ?_; (with_reducible refine (impl_StoreOk.calls k _ _ l0 false _ ?side1 ?side2 ?side3 A3.out).mono ?_); (case side1 => refine EnvW.below HE.out ?_; repeat (first | (with_reducible first | exact HB.out | apply below_alloc | apply pw_below_drewN | apply below_drew1) | exact HB.out)); (case side2 => exact cS_ HR0 HB); (case side3 => exact HC0.out); rintro e w31 ⟨rfl, hb⟩; refine ⟨_, rfl, ?_⟩; replace HO566 := Aside0.mk (Kd.R_below (kr_ HO566) hb); replace HB := Aside0.mk (below_step (bw_ HB) hb); clear hb))
 go_ret
 exact ⟨_, eR_, kr_ HO566, bw_ HB⟩
}
end Go.Proofs.YtikjbfjnbhaljaaGreatDoor.P
end
