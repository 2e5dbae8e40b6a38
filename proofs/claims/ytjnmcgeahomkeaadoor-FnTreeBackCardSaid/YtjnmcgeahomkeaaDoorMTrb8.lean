/- Texts of Trb, put together by program. -/
import Derived.Test.YtjnmcgeahomkeaaDoorMTrb2
import Derived.Test.YtjnmcgeahomkeaaDoorMTrb3
import Derived.Test.YtjnmcgeahomkeaaDoorMTrb4
import Derived.Test.YtjnmcgeahomkeaaDoorMTrb5
import Derived.Test.YtjnmcgeahomkeaaDoorMTrb7

section
namespace Go.Proofs.YtjnmcgeahomkeaaDoor.P
open Go.RowKit Go.Proofs.YtjnmcgeahomkeaaDoorW.PrintWords Go.Proofs.YtjnmcgeahomkeaaDoorW.PrintLast Go.Proofs.YtjnmcgeahomkeaaDoorW.PrintMore Go.Proofs.YtjnmcgeahomkeaaDoorM
attribute [local go_sem] max2_int min2_int max_two min_two max_three min_three max_four min_four
set_option linter.unusedVariables false
set_option linter.unusedSimpArgs false
set_option maxHeartbeats 8000000
set_option maxRecDepth 100000
def spec_PackTree.l0 : Nat → List (S29) → List Int → Int → Option (List Int)
 | 0, _, _, _ => none
 | k + 1, x0, x3, x4 => if x4 < (x0.length : Int) then (if 0 ≤ x4 then (if (rd_T29 x0 x4).f3 = true then (if x3.length < 140737488355328 then ((spec_l10Text.f k (x3 ++ [(wrap64 (((rd_T29 x0 x4).f1) + 16)) % 256]) ((rd_T29 x0 x4).f0)).bind fun t501 => ((spec_l10Text.f k t501 ((rd_T29 x0 x4).f2)).bind fun t505 => (spec_PackTree.l0 k x0 t505 (wrap64 (x4 + 1))))) else (none)) else (if x3.length < 140737488355328 then ((spec_l10Text.f k (x3 ++ [((rd_T29 x0 x4).f1) % 256]) ((rd_T29 x0 x4).f0)).bind fun t512 => ((spec_l10Text.f k t512 ((rd_T29 x0 x4).f2)).bind fun t516 => (spec_PackTree.l0 k x0 t516 (wrap64 (x4 + 1))))) else (none))) else (none)) else (some x3)
def spec_PackTree.f (k : Nat) (l0 : List (S29)) : Option (List Int) := (spec_TreeOk.f k l0).bind fun t485 => (if t485 = true then ((spec_l10Num.f k (([76, 65, 82, 49] : List Int)) (l0.length : Int)).bind fun t492 => (spec_PackTree.l0 k l0 t492 0)) else (some (([] : List Int))))
def spec_PackTree.T11 : Bool × List (List Nat × List Nat) := (true, [([], []), ([], []), ([], []), ([1, 2], [1, 2]), ([3], [3]), ([4], [4]), ([0, 5], [0, 5]), ([], []), ([], []), ([7, 8], [7, 8]), ([9], [9]), ([10], [10]), ([6, 11, 6], [6, 11]), ([12, 12, 0, 1, 2, 3, 4, 5, 6, 7, 8, 9, 10, 11, 12], [0, 12])])
def spec_PackTree.B11 : List Nat := [0, 0, 0, 6, 14, 30, 63, 0, 0, 384, 896, 1920, 4095, 8191]
theorem spec_PackTree.tab11 : rtab .any (opsOf Tryd.f30 11) = spec_PackTree.T11 := by kernel_rfl
theorem spec_PackTree.bits11 : waitsOk spec_PackTree.T11.2 spec_PackTree.B11 = true := by kernel_rfl
theorem spec_PackTree.calls (k : Nat) (A0 : Option Addr) (c0 : Nat) (l0 : List (S29)) (r : List Int) (w : World) (hr0 : Kd.C k29 w A0 l0.length l0) (hc0 : l0.length ≤ c0) (h : spec_PackTree.f k l0 = some r) :
 Calls Tryd.prog 30 #[.slice A0 l0.length c0] w fun e w' => ∃ v0_ : Value, e = .returned (v0_) ∧ Kd.R (Kd.int .u8) 5 w' w.heap.size (fun _ => True) v0_ r ∧ Below w.heap.size w w' := by
 have HR0 := Aside0.mk hr0
 have HC0 := Aside0.mk hc0
 clear hr0 hc0
 have HB := Aside0.mk (Below.refl w.heap.size w)
 have H : ((spec_TreeOk.f k l0).bind fun t485 => (if t485 = true then ((spec_l10Num.f k (([76, 65, 82, 49] : List Int)) (l0.length : Int)).bind fun t492 => (spec_PackTree.l0 k l0 t492 0)) else (some (([] : List Int))))) = some r := h
 clear h
 replace H := Option.bind_eq_some_iff.mp H
 obtain ⟨t485, A20, H⟩ := H
 have A2 := Aside0.mk A20
 clear A20
 by_cases c3 : t485 = true
 {
 subst c3
 rw [if_pos rfl] at H
 obtain ⟨y489, hy489⟩ : ∃ y_ : List Int, y_ = (([76, 65, 82, 49] : List Int)) := ⟨_, rfl⟩
 replace H : ((spec_l10Num.f k y489 (l0.length : Int)).bind fun t492 => (spec_PackTree.l0 k l0 t492 0)) = some r := rH_ hy489 H
 have Ny489 := Aside0.mk hy489
 clear hy489
 replace H := Option.bind_eq_some_iff.mp H
 obtain ⟨t492, A40, H⟩ := H
 have A4 := Aside0.mk A40
 clear A40
 have H' := Aside0.mk H
 clear H
 go_enter Tryd.func30, Tryd.ntmps30
 go_wp2_with (first | ((with_reducible refine gate_callee (f := 8) rfl ?_); refine gL_ (some 7) Tryd.func8 #[.slice A0 l0.length c0] ?_; (with_reducible refine (spec_TreeOk.calls k _ _ l0 true _ ?side1 ?side2 A2.out).mono ?_); (case side1 => exact cc_ HR0); (case side2 => exact HC0.out); rintro e w5 ⟨rfl, hb⟩; refine ⟨_, rfl, ?_⟩; replace HB := Aside0.mk (below_step (bw_ HB) hb); clear hb) | ((with_reducible refine gate_dst (N := 10) rfl ?_); refine Kd.Z_litc (Kd.int .u8) _ 5 ?hg (N := 10) ?hd (xs := ([76, 65, 82, 49] : List Int)) (inner := [.int .u8 76, .int .u8 65, .int .u8 82, .int .u8 49]) (ok := fun _ => True) (okp := fun _ => True) ?hr ?hp (fun _ hk => hk) trivial (Below.refl _ _) (Nat.le_refl _) (by simp) rfl rfl 22 rfl Tryd.underlying22 Tryd.underlying5 ?hev ?_; (case hev => intro u_; rfl); (case hd => rfl); (case hg => rfl); (case hr => first | (go_simp; done) | (go_simp; rfl)); (case hp => exact (Reps.one (show Kd.M (Kd.int .u8) _ _ _ 76 [.int .u8 76] from rfl) (Reps.one (show Kd.M (Kd.int .u8) _ _ _ 65 [.int .u8 65] from rfl) (Reps.one (show Kd.M (Kd.int .u8) _ _ _ 82 [.int .u8 82] from rfl) (Reps.one (show Kd.M (Kd.int .u8) _ _ _ 49 [.int .u8 49] from rfl) (Reps.none _ _)))))); intro v490 w6 ho7 hb hg_ hnew_; clear hg_ hnew_; (first | rw [← Ny489.out] at ho7 | (simp only [Int.reduceToNat] at ho7; rw [← Ny489.out] at ho7)); have HO491 := Aside0.mk (Kd.Z_lower ho7 (below_size (bw_ HB))); replace HB := Aside0.mk (below_step (bw_ HB) hb); clear hb ho7; obtain ⟨Ao8, co8, eo8⟩ := Kd.Z_slice HO491.out; subst eo8) | ((with_reducible refine gate_callee (f := 53) rfl ?_); refine gL_ (some 14) Tryd.func53 #[.slice Ao8 y489.length co8, .int .i64 (l0.length : Int)] ?_; (with_reducible refine (spec_l10Num.callsZ k (fun k_ => some k_ = (.slice Ao8 y489.length co8 : Value).ownBlock) (.slice Ao8 y489.length co8) y489 (l0.length : Int) t492 w _ ?side1 ?side2 A4.out).mono ?_); (case side1 => exact bw_ HB); (case side2 => exact Kd.Z_tight rfl HO491.out); rintro e w9 ⟨v493, rfl, ho0, hb, hkp⟩; refine ⟨_, rfl, ?_⟩; have HO494 := Aside0.mk (Kd.R_mono (ok' := fun k_ => True) ho0 (fun k_ hk_ => trivial)); replace HB := Aside0.mk (hb); clear HO491; (try clear hb); (try clear hkp); (try clear ho0)))
 go_loopg [3, 4] k (fun kq v3 v4 w' => ∃ (x3_1 : List Int) (x4_1 : Int), v4 = .int .i64 x4_1 ∧ Aside0 (spec_PackTree.l0 kq l0 x3_1 x4_1 = some r) ∧ Aside0 (kq ≤ k) ∧ Aside0 (Kd.R (Kd.int .u8) 5 w' w.heap.size (fun _ => True) v3 x3_1) ∧ Aside0 (Below w.heap.size w w'))
 case atStart => exact ⟨(t492), (0), (by first | rfl | (simp; done) | (simp [*]; done)), H', ⟨Nat.le_refl _⟩, ⟨kr_ HO494⟩, ⟨bw_ HB⟩⟩
 case round =>
  clear H'
  try clear p2
  try clear c3
  try clear c5
  try clear c8
  obtain ⟨x3_1, x4_1, rfl, HA, HK1, HO_3, HB⟩ := hrel
  cases gk with
  | zero => exact absurd HA.out (by simp [spec_PackTree.l0])
  | succ k1 =>
   have H := HA.out
   clear HA
   simp only [spec_PackTree.l0] at H
   by_cases c10 : x4_1 < (l0.length : Int)
   {
   rw [if_pos c10] at H
   have c10b0 := decide_eq_true c10
   clear c10
   by_cases c11 : 0 ≤ x4_1
   {
   rw [if_pos c11] at H
   have c11b0 := decide_eq_true c11
   clear c11
   obtain ⟨bq12, hbq12⟩ : ∃ b_ : Bool, b_ = ((rd_T29 l0 x4_1).f3) := ⟨_, rfl⟩
   replace H : (if bq12 = true then (if x3_1.length < 140737488355328 then ((spec_l10Text.f k1 (x3_1 ++ [(wrap64 (((rd_T29 l0 x4_1).f1) + 16)) % 256]) ((rd_T29 l0 x4_1).f0)).bind fun t501 => ((spec_l10Text.f k1 t501 ((rd_T29 l0 x4_1).f2)).bind fun t505 => (spec_PackTree.l0 k1 l0 t505 (wrap64 (x4_1 + 1))))) else (none)) else (if x3_1.length < 140737488355328 then ((spec_l10Text.f k1 (x3_1 ++ [((rd_T29 l0 x4_1).f1) % 256]) ((rd_T29 l0 x4_1).f0)).bind fun t512 => ((spec_l10Text.f k1 t512 ((rd_T29 l0 x4_1).f2)).bind fun t516 => (spec_PackTree.l0 k1 l0 t516 (wrap64 (x4_1 + 1))))) else (none))) = some r := by rw [← hbq12] at H; exact H
   have Nbq12 := Aside0.mk hbq12
   clear hbq12
   by_cases c13 : bq12 = true
   {
   subst c13
   rw [if_pos rfl] at H
   by_cases c14 : x3_1.length < 140737488355328
   {
   rw [if_pos c14] at H
   have LMc14 := Aside0.mk c14
   clear c14
   obtain ⟨y497, hy497⟩ : ∃ y_ : List Int, y_ = (x3_1 ++ [(wrap64 (((rd_T29 l0 x4_1).f1) + 16)) % 256]) := ⟨_, rfl⟩
   replace H : ((spec_l10Text.f k1 y497 ((rd_T29 l0 x4_1).f0)).bind fun t501 => ((spec_l10Text.f k1 t501 ((rd_T29 l0 x4_1).f2)).bind fun t505 => (spec_PackTree.l0 k1 l0 t505 (wrap64 (x4_1 + 1))))) = some r := rH_ hy497 H
   have Ny497 := Aside0.mk hy497
   clear hy497
   replace H := Option.bind_eq_some_iff.mp H
   obtain ⟨t501, A150, H⟩ := H
   have A15 := Aside0.mk A150
   clear A150
   replace H := Option.bind_eq_some_iff.mp H
   obtain ⟨t505, A160, H⟩ := H
   have A16 := Aside0.mk A160
   clear A160
   have H' := Aside0.mk H
   clear H
   have p495 : 0 ≤ (x4_1 : Int) := dA_
   have q495 : x4_1 < (l0.length : Int) := dA_
   obtain ⟨ad495, e495, hx495_0, hx495_1, hx495_2, hx495_3⟩ := at_T29 HR0.out x4_1 p495 q495
   (try rw [← Nbq12.out] at hx495_3)
   cases e495
   replace hx495_0 := hX_ HB hx495_0
   replace hx495_1 := hX_ HB hx495_1
   replace hx495_2 := hX_ HB hx495_2
   replace hx495_3 := hX_ HB hx495_3
   replace p495 := eq_true p495
   replace q495 := eq_true q495
   have p496 : 0 ≤ (x4_1 : Int) := dA_
   have q496 : x4_1 < (l0.length : Int) := dA_
   obtain ⟨ad496, e496, hx496_0, hx496_1, hx496_2, hx496_3⟩ := at_T29 HR0.out x4_1 p496 q496
   (try rw [← Nbq12.out] at hx496_3)
   obtain rfl : ad495 = ad496 := (by injection e496)
   replace hx496_0 := hX_ HB hx496_0
   replace hx496_1 := hX_ HB hx496_1
   replace hx496_2 := hX_ HB hx496_2
   replace hx496_3 := hX_ HB hx496_3
   replace p496 := eq_true p496
   replace q496 := eq_true q496
   try go_wp2_with (first | ((with_reducible refine gate_builtin (b := .append) (xs := #[.tmp 33, .tmp 36]) rfl ?_); at_builtin; refine Kd.R_append (Kd.int .u8) (w0 := w) w.heap.size rfl (.tmp 33) (.tmp 36) 22 5 (.int .u8 0) 1 rfl Tryd.underlying22 info5 rfl (by decide) (by omega) u3 x3_1 ((wrap64 (((rd_T29 l0 x4_1).f1) + 16)) % 256) [.int .u8 ((wrap64 (((rd_T29 l0 x4_1).f1) + 16)) % 256)] (fun _ => True) (fun _ => False) rfl rfl ?aP (fun _ hk => hk.elim) ?aF ?aO ?aB ?aS ?aL ?_; (case aP => exact rfl); (case aB => exact (bw_ HB)); (case aF => exact (fun _ _ => trivial)); (case aO => exact (kr_ HO_3)); (case aS => exact (below_size (bw_ HB))); (case aL => have := LMc14.out; omega); intro v498 w17 ho hb hg hat; rw [← Ny497.out] at ho; replace HB := Aside0.mk (hb); have HO499 := Aside0.mk (ho); clear HO_3; clear ho hb hg hat))
   replace HO499 := Aside0.mk (Kd.R_drew HO499.out)
   replace HB := Aside0.mk (below_drew1 HB.out)
   have p500 : 0 ≤ (x4_1 : Int) := dA_
   have q500 : x4_1 < (l0.length : Int) := dA_
   obtain ⟨ad500, e500, hx500_0, hx500_1, hx500_2, hx500_3⟩ := at_T29 HR0.out x4_1 p500 q500
   have hw500_3 := hx500_3
   (try rw [← Nbq12.out] at hw500_3)
   have hw500_2 := hx500_2
   (try rw [← Nbq12.out] at hw500_2)
   have hw500_1 := hx500_1
   (try rw [← Nbq12.out] at hw500_1)
   have hw500_0 := hx500_0
   (try rw [← Nbq12.out] at hw500_0)
   (try rw [← Nbq12.out] at hx500_3)
   obtain rfl : ad495 = ad500 := (by injection e500)
   replace hx500_0 := hX_ HB hx500_0
   replace hx500_1 := hX_ HB hx500_1
   replace hx500_2 := hX_ HB hx500_2
   replace hx500_3 := hX_ HB hx500_3
   replace p500 := eq_true p500
   replace q500 := eq_true q500
   have p504 : 0 ≤ (x4_1 : Int) := dA_
   have q504 : x4_1 < (l0.length : Int) := dA_
   obtain ⟨ad504, e504, hx504_0, hx504_1, hx504_2, hx504_3⟩ := at_T29 HR0.out x4_1 p504 q504
   have hw504_3 := hx504_3
   (try rw [← Nbq12.out] at hw504_3)
   have hw504_2 := hx504_2
   (try rw [← Nbq12.out] at hw504_2)
   have hw504_1 := hx504_1
   (try rw [← Nbq12.out] at hw504_1)
   have hw504_0 := hx504_0
   (try rw [← Nbq12.out] at hw504_0)
   (try rw [← Nbq12.out] at hx504_3)
   obtain rfl : ad495 = ad504 := (by injection e504)
   replace hx504_0 := hX_ HB hx504_0
   replace hx504_1 := hX_ HB hx504_1
   replace hx504_2 := hX_ HB hx504_2
   replace hx504_3 := hX_ HB hx504_3
   replace p504 := eq_true p504
   replace q504 := eq_true q504
   obtain ⟨Ao19, co19, eo19⟩ := Kd.R_slice HO499.out
   (first | subst eo19 | (injection eo19 with f1_ f2_ f3_; have f4_ := f1_.symm; have f5_ := f3_.symm; clear f1_ f2_ f3_; subst f4_; subst f5_))
   refine start_ (n := 14) (S := fun w' => w'.cell? (ad495.add ((x4_1).toNat * 4)) = some (.string ((rd_T29 l0 x4_1).f0)) ∧ w'.cell? ⟨(ad495.add ((x4_1).toNat * 4)).block, (ad495.add ((x4_1).toNat * 4)).off + 1, none⟩ = some (.int .i64 ((rd_T29 l0 x4_1).f1)) ∧ w'.cell? ⟨(ad495.add ((x4_1).toNat * 4)).block, (ad495.add ((x4_1).toNat * 4)).off + 2, none⟩ = some (.string ((rd_T29 l0 x4_1).f2)) ∧ w'.cell? ⟨(ad495.add ((x4_1).toNat * 4)).block, (ad495.add ((x4_1).toNat * 4)).off + 3, none⟩ = some (.bool (true)) ∧ w'.cell? (ad495.add ((x4_1).toNat * 4)) = some (.string ((rd_T29 l0 x4_1).f0)) ∧ w'.cell? ⟨(ad495.add ((x4_1).toNat * 4)).block, (ad495.add ((x4_1).toNat * 4)).off + 1, none⟩ = some (.int .i64 ((rd_T29 l0 x4_1).f1)) ∧ w'.cell? ⟨(ad495.add ((x4_1).toNat * 4)).block, (ad495.add ((x4_1).toNat * 4)).off + 2, none⟩ = some (.string ((rd_T29 l0 x4_1).f2)) ∧ w'.cell? ⟨(ad495.add ((x4_1).toNat * 4)).block, (ad495.add ((x4_1).toNat * 4)).off + 3, none⟩ = some (.bool (true))) (ds := []) (bs_ 14 0) (by kernel_rfl) rfl (by kernel_rfl) ⟨((HB.out.cell (World.block_lt_of_cell? w _ hw500_0)).trans hw500_0), ((HB.out.cell (World.block_lt_of_cell? w _ hw500_1)).trans hw500_1), ((HB.out.cell (World.block_lt_of_cell? w _ hw500_2)).trans hw500_2), ((HB.out.cell (World.block_lt_of_cell? w _ hw500_3)).trans hw500_3), ((HB.out.cell (World.block_lt_of_cell? w _ hw504_0)).trans hw504_0), ((HB.out.cell (World.block_lt_of_cell? w _ hw504_1)).trans hw504_1), ((HB.out.cell (World.block_lt_of_cell? w _ hw504_2)).trans hw504_2), ((HB.out.cell (World.block_lt_of_cell? w _ hw504_3)).trans hw504_3)⟩ (fun hHeld => ?_); refine with_tabW spec_PackTree.tab11 spec_PackTree.bits11 (fun HT_ HW_ => ?_)
   generalize w17.drew = w18 at HO499 HB hx500_0 hx500_1 hx500_2 hx500_3 hx504_0 hx504_1 hx504_2 hx504_3 hHeld ⊢
   refine pS_ 0 ?_
   refine pS_ 1 ?_
   refine pS_ 2 ?_
   refine pS_ 3 ?_
   refine pS_ 4 ?_
   refine pS_ 7 ?_
   refine pS_ 8 ?_
   refine pS_ 9 ?_
   refine pS_ 10 ?_
   refine t8_ 5 hHeld ?_
   refine t8_ 11 hHeld ?_
   refine oS_ 6 (fun K hK => ?_)
   refine gS_ Tryd.func54 #[.slice Ao19 y497.length co19, .string ((rd_T29 l0 x4_1).f0)] ?_
   with_reducible refine (spec_l10Text.calls k1 (fun k_ => some k_ = (.slice Ao19 y497.length co19 : Value).ownBlock) (.slice Ao19 y497.length co19) y497 ((rd_T29 l0 x4_1).f0) t501 w _ ?side1 ?side2 A15.out).mono ?_
   (case side1 => exact bw_ HB)
   (case side2 => exact Kd.R_tight rfl HO499.out)
   rintro e w20 ⟨v502, rfl, ho0, hb, hkp⟩
   refine ⟨_, rfl, ?_⟩
   have HO503 := Aside0.mk (Kd.R_mono (ok' := fun k_ => True) ho0 (fun k_ hk_ => trivial))
   replace HB := Aside0.mk (hb)
   clear HO499
   (try clear hb)
   (try clear hkp)
   (try clear ho0)
   obtain ⟨Ao21, co21, eo21⟩ := Kd.R_slice HO503.out
   (first | subst eo21 | (injection eo21 with f1_ f2_ f3_; have f4_ := f1_.symm; have f5_ := f3_.symm; clear f1_ f2_ f3_; subst f4_; subst f5_))
   refine hK.out _ _ ⟨((HB.out.cell (World.block_lt_of_cell? w _ hw500_0)).trans hw500_0), ((HB.out.cell (World.block_lt_of_cell? w _ hw500_1)).trans hw500_1), ((HB.out.cell (World.block_lt_of_cell? w _ hw500_2)).trans hw500_2), ((HB.out.cell (World.block_lt_of_cell? w _ hw500_3)).trans hw500_3), ((HB.out.cell (World.block_lt_of_cell? w _ hw504_0)).trans hw504_0), ((HB.out.cell (World.block_lt_of_cell? w _ hw504_1)).trans hw504_1), ((HB.out.cell (World.block_lt_of_cell? w _ hw504_2)).trans hw504_2), ((HB.out.cell (World.block_lt_of_cell? w _ hw504_3)).trans hw504_3)⟩ (fun hHeld => ?_)
   clear hK K
   refine nS_ 44 ?_
   refine oS_ 12 (fun K hK => ?_)
   refine gS_ Tryd.func54 #[.slice Ao21 t501.length co21, .string ((rd_T29 l0 x4_1).f2)] ?_
   with_reducible refine (spec_l10Text.calls k1 (fun k_ => some k_ = (.slice Ao21 t501.length co21 : Value).ownBlock) (.slice Ao21 t501.length co21) t501 ((rd_T29 l0 x4_1).f2) t505 w _ ?side1 ?side2 A16.out).mono ?_
   (case side1 => exact bw_ HB)
   (case side2 => exact Kd.R_tight rfl HO503.out)
   rintro e w22 ⟨v506, rfl, ho0, hb, hkp⟩
   refine ⟨_, rfl, ?_⟩
   have HO507 := Aside0.mk (Kd.R_mono (ok' := fun k_ => True) ho0 (fun k_ hk_ => trivial))
   replace HB := Aside0.mk (hb)
   clear HO503
   (try clear hb)
   (try clear hkp)
   (try clear ho0)
   refine hK.out _ _ ⟨((HB.out.cell (World.block_lt_of_cell? w _ hw500_0)).trans hw500_0), ((HB.out.cell (World.block_lt_of_cell? w _ hw500_1)).trans hw500_1), ((HB.out.cell (World.block_lt_of_cell? w _ hw500_2)).trans hw500_2), ((HB.out.cell (World.block_lt_of_cell? w _ hw500_3)).trans hw500_3), ((HB.out.cell (World.block_lt_of_cell? w _ hw504_0)).trans hw504_0), ((HB.out.cell (World.block_lt_of_cell? w _ hw504_1)).trans hw504_1), ((HB.out.cell (World.block_lt_of_cell? w _ hw504_2)).trans hw504_2), ((HB.out.cell (World.block_lt_of_cell? w _ hw504_3)).trans hw504_3)⟩ (fun hHeld => ?_)
   clear hK K
   refine nS_ 50 ?_
   refine pS_ 13 ?_
   refine done_ (done_of HT_.out (by kernel_rfl)) ?_
   try go_wp2
   go_roundg k1
   case measure => have := HK1.out; omega
   case rel => exact ⟨(t505), (wrap64 (x4_1 + 1)), (by first | rfl | (simp; done) | (simp [*]; done)), H', ⟨by have := HK1.out; omega⟩, ⟨kr_ HO507⟩, ⟨bw_ HB⟩⟩}
   {
   rw [if_neg c14] at H
   exact absurd H (by simp)}}
   {
   replace c13 := Bool.eq_false_iff.mpr c13
   subst c13
   rw [if_neg (show ¬ (false = true) by decide)] at H
   by_cases c23 : x3_1.length < 140737488355328
   {
   rw [if_pos c23] at H
   have LMc23 := Aside0.mk c23
   clear c23
   obtain ⟨y508, hy508⟩ : ∃ y_ : List Int, y_ = (x3_1 ++ [((rd_T29 l0 x4_1).f1) % 256]) := ⟨_, rfl⟩
   replace H : ((spec_l10Text.f k1 y508 ((rd_T29 l0 x4_1).f0)).bind fun t512 => ((spec_l10Text.f k1 t512 ((rd_T29 l0 x4_1).f2)).bind fun t516 => (spec_PackTree.l0 k1 l0 t516 (wrap64 (x4_1 + 1))))) = some r := rH_ hy508 H
   have Ny508 := Aside0.mk hy508
   clear hy508
   replace H := Option.bind_eq_some_iff.mp H
   obtain ⟨t512, A240, H⟩ := H
   have A24 := Aside0.mk A240
   clear A240
   replace H := Option.bind_eq_some_iff.mp H
   obtain ⟨t516, A250, H⟩ := H
   have A25 := Aside0.mk A250
   clear A250
   have H' := Aside0.mk H
   clear H
   have p495 : 0 ≤ (x4_1 : Int) := dA_
   have q495 : x4_1 < (l0.length : Int) := dA_
   obtain ⟨ad495, e495, hx495_0, hx495_1, hx495_2, hx495_3⟩ := at_T29 HR0.out x4_1 p495 q495
   (try rw [← Nbq12.out] at hx495_3)
   cases e495
   replace hx495_0 := hX_ HB hx495_0
   replace hx495_1 := hX_ HB hx495_1
   replace hx495_2 := hX_ HB hx495_2
   replace hx495_3 := hX_ HB hx495_3
   replace p495 := eq_true p495
   replace q495 := eq_true q495
   have p496 : 0 ≤ (x4_1 : Int) := dA_
   have q496 : x4_1 < (l0.length : Int) := dA_
   obtain ⟨ad496, e496, hx496_0, hx496_1, hx496_2, hx496_3⟩ := at_T29 HR0.out x4_1 p496 q496
   (try rw [← Nbq12.out] at hx496_3)
   obtain rfl : ad495 = ad496 := (by injection e496)
   replace hx496_0 := hX_ HB hx496_0
   replace hx496_1 := hX_ HB hx496_1
   replace hx496_2 := hX_ HB hx496_2
   replace hx496_3 := hX_ HB hx496_3
   replace p496 := eq_true p496
   replace q496 := eq_true q496
   try go_wp2_with (first | ((with_reducible refine gate_builtin (b := .append) (xs := #[.tmp 33, .tmp 36]) rfl ?_); at_builtin; refine Kd.R_append (Kd.int .u8) (w0 := w) w.heap.size rfl (.tmp 33) (.tmp 36) 22 5 (.int .u8 0) 1 rfl Tryd.underlying22 info5 rfl (by decide) (by omega) u3 x3_1 (((rd_T29 l0 x4_1).f1) % 256) [.int .u8 (((rd_T29 l0 x4_1).f1) % 256)] (fun _ => True) (fun _ => False) rfl rfl ?aP (fun _ hk => hk.elim) ?aF ?aO ?aB ?aS ?aL ?_; (case aP => exact rfl); (case aB => exact (bw_ HB)); (case aF => exact (fun _ _ => trivial)); (case aO => exact (kr_ HO_3)); (case aS => exact (below_size (bw_ HB))); (case aL => have := LMc23.out; omega); intro v509 w26 ho hb hg hat; rw [← Ny508.out] at ho; replace HB := Aside0.mk (hb); have HO510 := Aside0.mk (ho); clear HO_3; clear ho hb hg hat))
   replace HO510 := Aside0.mk (Kd.R_drew HO510.out)
   replace HB := Aside0.mk (below_drew1 HB.out)
   have p511 : 0 ≤ (x4_1 : Int) := dA_
   have q511 : x4_1 < (l0.length : Int) := dA_
   obtain ⟨ad511, e511, hx511_0, hx511_1, hx511_2, hx511_3⟩ := at_T29 HR0.out x4_1 p511 q511
   have hw511_3 := hx511_3
   (try rw [← Nbq12.out] at hw511_3)
   have hw511_2 := hx511_2
   (try rw [← Nbq12.out] at hw511_2)
   have hw511_1 := hx511_1
   (try rw [← Nbq12.out] at hw511_1)
   have hw511_0 := hx511_0
   (try rw [← Nbq12.out] at hw511_0)
   (try rw [← Nbq12.out] at hx511_3)
   obtain rfl : ad495 = ad511 := (by injection e511)
   replace hx511_0 := hX_ HB hx511_0
   replace hx511_1 := hX_ HB hx511_1
   replace hx511_2 := hX_ HB hx511_2
   replace hx511_3 := hX_ HB hx511_3
   replace p511 := eq_true p511
   replace q511 := eq_true q511
   have p515 : 0 ≤ (x4_1 : Int) := dA_
   have q515 : x4_1 < (l0.length : Int) := dA_
   obtain ⟨ad515, e515, hx515_0, hx515_1, hx515_2, hx515_3⟩ := at_T29 HR0.out x4_1 p515 q515
   have hw515_3 := hx515_3
   (try rw [← Nbq12.out] at hw515_3)
   have hw515_2 := hx515_2
   (try rw [← Nbq12.out] at hw515_2)
   have hw515_1 := hx515_1
   (try rw [← Nbq12.out] at hw515_1)
   have hw515_0 := hx515_0
   (try rw [← Nbq12.out] at hw515_0)
   (try rw [← Nbq12.out] at hx515_3)
   obtain rfl : ad495 = ad515 := (by injection e515)
   replace hx515_0 := hX_ HB hx515_0
   replace hx515_1 := hX_ HB hx515_1
   replace hx515_2 := hX_ HB hx515_2
   replace hx515_3 := hX_ HB hx515_3
   replace p515 := eq_true p515
   replace q515 := eq_true q515
   obtain ⟨Ao28, co28, eo28⟩ := Kd.R_slice HO510.out
   (first | subst eo28 | (injection eo28 with f1_ f2_ f3_; have f4_ := f1_.symm; have f5_ := f3_.symm; clear f1_ f2_ f3_; subst f4_; subst f5_))
   refine start_ (n := 14) (S := fun w' => w'.cell? (ad495.add ((x4_1).toNat * 4)) = some (.string ((rd_T29 l0 x4_1).f0)) ∧ w'.cell? ⟨(ad495.add ((x4_1).toNat * 4)).block, (ad495.add ((x4_1).toNat * 4)).off + 1, none⟩ = some (.int .i64 ((rd_T29 l0 x4_1).f1)) ∧ w'.cell? ⟨(ad495.add ((x4_1).toNat * 4)).block, (ad495.add ((x4_1).toNat * 4)).off + 2, none⟩ = some (.string ((rd_T29 l0 x4_1).f2)) ∧ w'.cell? ⟨(ad495.add ((x4_1).toNat * 4)).block, (ad495.add ((x4_1).toNat * 4)).off + 3, none⟩ = some (.bool (false)) ∧ w'.cell? (ad495.add ((x4_1).toNat * 4)) = some (.string ((rd_T29 l0 x4_1).f0)) ∧ w'.cell? ⟨(ad495.add ((x4_1).toNat * 4)).block, (ad495.add ((x4_1).toNat * 4)).off + 1, none⟩ = some (.int .i64 ((rd_T29 l0 x4_1).f1)) ∧ w'.cell? ⟨(ad495.add ((x4_1).toNat * 4)).block, (ad495.add ((x4_1).toNat * 4)).off + 2, none⟩ = some (.string ((rd_T29 l0 x4_1).f2)) ∧ w'.cell? ⟨(ad495.add ((x4_1).toNat * 4)).block, (ad495.add ((x4_1).toNat * 4)).off + 3, none⟩ = some (.bool (false))) (ds := []) (bs_ 14 0) (by kernel_rfl) rfl (by kernel_rfl) ⟨((HB.out.cell (World.block_lt_of_cell? w _ hw511_0)).trans hw511_0), ((HB.out.cell (World.block_lt_of_cell? w _ hw511_1)).trans hw511_1), ((HB.out.cell (World.block_lt_of_cell? w _ hw511_2)).trans hw511_2), ((HB.out.cell (World.block_lt_of_cell? w _ hw511_3)).trans hw511_3), ((HB.out.cell (World.block_lt_of_cell? w _ hw515_0)).trans hw515_0), ((HB.out.cell (World.block_lt_of_cell? w _ hw515_1)).trans hw515_1), ((HB.out.cell (World.block_lt_of_cell? w _ hw515_2)).trans hw515_2), ((HB.out.cell (World.block_lt_of_cell? w _ hw515_3)).trans hw515_3)⟩ (fun hHeld => ?_); refine with_tabW spec_PackTree.tab11 spec_PackTree.bits11 (fun HT_ HW_ => ?_)
   generalize w26.drew = w27 at HO510 HB hx511_0 hx511_1 hx511_2 hx511_3 hx515_0 hx515_1 hx515_2 hx515_3 hHeld ⊢
   refine pS_ 0 ?_
   refine pS_ 1 ?_
   refine pS_ 2 ?_
   refine pS_ 3 ?_
   refine pS_ 4 ?_
   refine pS_ 7 ?_
   refine pS_ 8 ?_
   refine pS_ 9 ?_
   refine pS_ 10 ?_
   refine t8_ 5 hHeld ?_
   refine t8_ 11 hHeld ?_
   refine oS_ 6 (fun K hK => ?_)
   refine gS_ Tryd.func54 #[.slice Ao28 y508.length co28, .string ((rd_T29 l0 x4_1).f0)] ?_
   with_reducible refine (spec_l10Text.calls k1 (fun k_ => some k_ = (.slice Ao28 y508.length co28 : Value).ownBlock) (.slice Ao28 y508.length co28) y508 ((rd_T29 l0 x4_1).f0) t512 w _ ?side1 ?side2 A24.out).mono ?_
   (case side1 => exact bw_ HB)
   (case side2 => exact Kd.R_tight rfl HO510.out)
   rintro e w29 ⟨v513, rfl, ho0, hb, hkp⟩
   refine ⟨_, rfl, ?_⟩
   have HO514 := Aside0.mk (Kd.R_mono (ok' := fun k_ => True) ho0 (fun k_ hk_ => trivial))
   replace HB := Aside0.mk (hb)
   clear HO510
   (try clear hb)
   (try clear hkp)
   (try clear ho0)
   obtain ⟨Ao30, co30, eo30⟩ := Kd.R_slice HO514.out
   (first | subst eo30 | (injection eo30 with f1_ f2_ f3_; have f4_ := f1_.symm; have f5_ := f3_.symm; clear f1_ f2_ f3_; subst f4_; subst f5_))
   refine hK.out _ _ ⟨((HB.out.cell (World.block_lt_of_cell? w _ hw511_0)).trans hw511_0), ((HB.out.cell (World.block_lt_of_cell? w _ hw511_1)).trans hw511_1), ((HB.out.cell (World.block_lt_of_cell? w _ hw511_2)).trans hw511_2), ((HB.out.cell (World.block_lt_of_cell? w _ hw511_3)).trans hw511_3), ((HB.out.cell (World.block_lt_of_cell? w _ hw515_0)).trans hw515_0), ((HB.out.cell (World.block_lt_of_cell? w _ hw515_1)).trans hw515_1), ((HB.out.cell (World.block_lt_of_cell? w _ hw515_2)).trans hw515_2), ((HB.out.cell (World.block_lt_of_cell? w _ hw515_3)).trans hw515_3)⟩ (fun hHeld => ?_)
   clear hK K
   refine nS_ 44 ?_
   refine oS_ 12 (fun K hK => ?_)
   refine gS_ Tryd.func54 #[.slice Ao30 t512.length co30, .string ((rd_T29 l0 x4_1).f2)] ?_
   with_reducible refine (spec_l10Text.calls k1 (fun k_ => some k_ = (.slice Ao30 t512.length co30 : Value).ownBlock) (.slice Ao30 t512.length co30) t512 ((rd_T29 l0 x4_1).f2) t516 w _ ?side1 ?side2 A25.out).mono ?_
   (case side1 => exact bw_ HB)
   (case side2 => exact Kd.R_tight rfl HO514.out)
   rintro e w31 ⟨v517, rfl, ho0, hb, hkp⟩
   refine ⟨_, rfl, ?_⟩
   have HO518 := Aside0.mk (Kd.R_mono (ok' := fun k_ => True) ho0 (fun k_ hk_ => trivial))
   replace HB := Aside0.mk (hb)
   clear HO514
   (try clear hb)
   (try clear hkp)
   (try clear ho0)
   refine hK.out _ _ ⟨((HB.out.cell (World.block_lt_of_cell? w _ hw511_0)).trans hw511_0), ((HB.out.cell (World.block_lt_of_cell? w _ hw511_1)).trans hw511_1), ((HB.out.cell (World.block_lt_of_cell? w _ hw511_2)).trans hw511_2), ((HB.out.cell (World.block_lt_of_cell? w _ hw511_3)).trans hw511_3), ((HB.out.cell (World.block_lt_of_cell? w _ hw515_0)).trans hw515_0), ((HB.out.cell (World.block_lt_of_cell? w _ hw515_1)).trans hw515_1), ((HB.out.cell (World.block_lt_of_cell? w _ hw515_2)).trans hw515_2), ((HB.out.cell (World.block_lt_of_cell? w _ hw515_3)).trans hw515_3)⟩ (fun hHeld => ?_)
   clear hK K
   refine nS_ 50 ?_
   refine pS_ 13 ?_
   refine done_ (done_of HT_.out (by kernel_rfl)) ?_
   try go_wp2
   go_roundg k1
   case measure => have := HK1.out; omega
   case rel => exact ⟨(t516), (wrap64 (x4_1 + 1)), (by first | rfl | (simp; done) | (simp [*]; done)), H', ⟨by have := HK1.out; omega⟩, ⟨kr_ HO518⟩, ⟨bw_ HB⟩⟩}
   {
   rw [if_neg c23] at H
   exact absurd H (by simp)}}}
   {
   rw [if_neg c11] at H
   exact absurd H (by simp)}}
   {
   rw [if_neg c10] at H
   have c10b0 := decide_eq_false c10
   clear c10
   obtain rfl := Option.some.inj H
   go_wp2
   go_ret
   exact ⟨_, eR_, kr_ HO_3, bw_ HB⟩}}
 {
 replace c3 := Bool.eq_false_iff.mpr c3
 subst c3
 rw [if_neg (show ¬ (false = true) by decide)] at H
 obtain ⟨y486, hy486⟩ : ∃ y_ : List Int, y_ = (([] : List Int)) := ⟨_, rfl⟩
 replace H : (some y486) = some r := rH_ hy486 H
 have Ny486 := Aside0.mk hy486
 clear hy486
 obtain rfl := Option.some.inj H
 go_enter Tryd.func30, Tryd.ntmps30
 go_wp2_with (first | ((with_reducible refine gate_callee (f := 8) rfl ?_); refine gL_ (some 7) Tryd.func8 #[.slice A0 l0.length c0] ?_; (with_reducible refine (spec_TreeOk.calls k _ _ l0 false _ ?side1 ?side2 A2.out).mono ?_); (case side1 => exact cc_ HR0); (case side2 => exact HC0.out); rintro e w32 ⟨rfl, hb⟩; refine ⟨_, rfl, ?_⟩; replace HB := Aside0.mk (below_step (bw_ HB) hb); clear hb) | ((with_reducible refine gate_dst (N := 9) rfl ?_); refine Kd.R_lit (Kd.int .u8) _ 5 ?hg (N := 9) ?hd (xs := ([] : List Int)) (inner := []) (ok := fun _ => True) (okp := fun _ => True) ?hr ?hp (fun _ hk => hk) trivial (Below.refl _ _) (Nat.le_refl _) (by simp) ?_; (case hd => rfl); (case hg => rfl); (case hr => first | (go_simp; done) | (go_simp; rfl)); (case hp => exact (Reps.none _ _)); intro v487 w33 ho34 hb hg_ hnew_; clear hg_ hnew_; (first | rw [← Ny486.out] at ho34 | (simp only [Int.reduceToNat] at ho34; rw [← Ny486.out] at ho34)); have HO488 := Aside0.mk (Kd.R_lower ho34 (below_size (bw_ HB))); replace HB := Aside0.mk (below_step (bw_ HB) hb); clear hb ho34))
 go_ret
 exact ⟨_, eR_, kr_ HO488, bw_ HB⟩
}
def spec_DrawUnpackTree.j0 : Nat → List Int → Int → Int → Bool → List Int → Int → Int → Option (List Int)
 | 0, _, _, _, _, _, _, _ => none
 | k + 1, x4, x5, x19, x20, x523000, x523001, x523002 => if x20 = true then ((spec_l1Below.f x523000 x523001 x523002 256).bind fun bt540 => (if 0 ≤ x5 then (if x5 < (x4.length : Int) then (some (x4.set (x5 : Int).toNat ((bt540.1) % 256))) else (none)) else (none))) else (if x19 = 2 then (if 0 ≤ x5 then (if x5 ≤ (x4.length : Int) then (some (x4.take (x5 : Int).toNat)) else (none)) else (none)) else (if x19 = 3 then (if x4.length < 140737488355328 then (some (x4 ++ [0])) else (none)) else (some x4)))
def spec_DrawUnpackTree.f (k : Nat) (l0 : List Int) : Option (List Int) := (spec_l1New.f k l0).bind fun bt519 => ((spec_l1Below.f bt519.1 bt519.2.1 bt519.2.2 8).bind fun bt523 => ((spec_l10DrawTree.f k bt519.1 bt523.2.1 bt523.2.2 bt523.1).bind fun bt526 => ((spec_PackTree.f k bt526.1).bind fun t531 => ((spec_l1Below.f bt519.1 bt526.2.1 bt526.2.2 (t531.length : Int)).bind fun bt534 => ((spec_l1Below.f bt519.1 bt534.2.1 bt534.2.2 6).bind fun bt537 => (if bt537.1 = 0 then (spec_DrawUnpackTree.j0 k t531 bt534.1 bt537.1 (bt537.1 == 0) bt519.1 bt537.2.1 bt537.2.2) else (spec_DrawUnpackTree.j0 k t531 bt534.1 bt537.1 (bt537.1 == 1) bt519.1 bt537.2.1 bt537.2.2)))))))
theorem spec_DrawUnpackTree.calls (k : Nat) (A0 : Option Addr) (c0 : Nat) (l0 : List Int) (r : List Int) (w : World) (hr0 : Kd.C (Kd.int .u8) w A0 l0.length l0) (hc0 : l0.length ≤ c0) (h : spec_DrawUnpackTree.f k l0 = some r) :
 Calls Tryd.prog 13 #[.slice A0 l0.length c0] w fun e w' => ∃ v0_ : Value, e = .returned (v0_) ∧ Kd.R (Kd.int .u8) 5 w' w.heap.size (fun _ => True) v0_ r ∧ Below w.heap.size w w' := by
 have HR0 := Aside0.mk hr0
 have HC0 := Aside0.mk hc0
 clear hr0 hc0
 have HB := Aside0.mk (Below.refl w.heap.size w)
 have H : ((spec_l1New.f k l0).bind fun bt519 => ((spec_l1Below.f bt519.1 bt519.2.1 bt519.2.2 8).bind fun bt523 => ((spec_l10DrawTree.f k bt519.1 bt523.2.1 bt523.2.2 bt523.1).bind fun bt526 => ((spec_PackTree.f k bt526.1).bind fun t531 => ((spec_l1Below.f bt519.1 bt526.2.1 bt526.2.2 (t531.length : Int)).bind fun bt534 => ((spec_l1Below.f bt519.1 bt534.2.1 bt534.2.2 6).bind fun bt537 => (if bt537.1 = 0 then (spec_DrawUnpackTree.j0 k t531 bt534.1 bt537.1 (bt537.1 == 0) bt519.1 bt537.2.1 bt537.2.2) else (spec_DrawUnpackTree.j0 k t531 bt534.1 bt537.1 (bt537.1 == 1) bt519.1 bt537.2.1 bt537.2.2)))))))) = some r := h
 clear h
 replace H := Option.bind_eq_some_iff.mp H
 obtain ⟨⟨t519, t520, t521⟩, A20, H⟩ := H
 have A2 := Aside0.mk A20
 clear A20
 replace H := Option.bind_eq_some_iff.mp H
 obtain ⟨⟨t523, t524, t525⟩, A30, H⟩ := H
 have A3 := Aside0.mk A30
 clear A30
 replace H := Option.bind_eq_some_iff.mp H
 obtain ⟨⟨t526, t529, t530⟩, A40, H⟩ := H
 have A4 := Aside0.mk A40
 clear A40
 replace H := Option.bind_eq_some_iff.mp H
 obtain ⟨t531, A50, H⟩ := H
 have A5 := Aside0.mk A50
 clear A50
 replace H := Option.bind_eq_some_iff.mp H
 obtain ⟨⟨t534, t535, t536⟩, A60, H⟩ := H
 have A6 := Aside0.mk A60
 clear A60
 replace H := Option.bind_eq_some_iff.mp H
 obtain ⟨⟨t537, t538, t539⟩, A70, H⟩ := H
 have A7 := Aside0.mk A70
 clear A70
 have HC8 := Aside0.mk H
 clear H
 go_enter Tryd.func13, Tryd.ntmps13
 go_upto_if 20 with (first | ((with_reducible refine gate_callee (f := 24) rfl ?_); refine gL_ (some 8) Tryd.func24 #[.slice A0 l0.length c0] ?_; (with_reducible refine (spec_l1New.calls k _ _ l0 t519 t520 t521 w _ ?side1 ?side2 ?side3 A2.out).mono ?_); (case side1 => exact bw_ HB); (case side2 => exact HR0.out); (case side3 => exact HC0.out); rintro e w9 ⟨g522, rfl, hi, hb, hb2⟩; refine ⟨_, rfl, ?_⟩; replace HB := Aside0.mk (hb); have HI522 := Aside0.mk (hi); clear hb hb2 hi) | ((with_reducible refine gate_callee (f := 32) rfl ?_); refine gL_ (some 11) Tryd.func32 #[.pointer (some ⟨g522, 0, none⟩), .int .i64 8] ?_; (with_reducible refine (spec_l1Below.calls g522 t519 t520 t521 8 t523 t524 t525 w _ ?side1 ?side2 A3.out).mono ?_); (case side1 => exact is72_ HI522); (case side2 => repeat (first | (with_reducible first | exact HB.out | apply below_alloc | apply pw_below_drewN | apply below_drew1 | refine below_set ?_ (IsS72.ge HI522.out)) | exact HB.out)); rintro e w10 ⟨rfl, hi, hb, hk⟩; refine ⟨_, rfl, ?_⟩; replace HB := Aside0.mk (hb); replace HI522 := Aside0.mk (hi); clear hb hk hi) | ((with_reducible refine gate_callee (f := 31) rfl ?_); refine gL_ (some 12) Tryd.func31 #[.pointer (some ⟨g522, 0, none⟩), .int .i64 t523] ?_; (with_reducible refine (spec_l10DrawTree.calls k g522 t519 t524 t525 t523 t526 t529 t530 w _ ?side1 ?side2 A4.out).mono ?_); (case side1 => exact is72_ HI522); (case side2 => repeat (first | (with_reducible first | exact HB.out | apply below_alloc | apply pw_below_drewN | apply below_drew1 | refine below_set ?_ (IsS72.ge HI522.out)) | exact HB.out)); rintro e w11 ⟨v527, rfl, ho0, hi, hb, hk⟩; refine ⟨_, rfl, ?_⟩; have HO528 := Aside0.mk (Kd.R_lower ho0 (below_size (bwg_ HB (IsS72.ge HI522.out)))); replace HB := Aside0.mk (hb); replace HI522 := Aside0.mk (hi); clear hb hk hi; (try clear ho0); obtain ⟨Ao12, co12, eo12⟩ := Kd.R_slice HO528.out; subst eo12) | ((with_reducible refine gate_callee (f := 30) rfl ?_); refine gL_ (some 13) Tryd.func30 #[.slice Ao12 t526.length co12] ?_; (with_reducible refine (spec_PackTree.calls k _ _ t526 t531 _ ?side1 ?side2 A5.out).mono ?_); (case side1 => exact cR_ HO528); (case side2 => exact (Kd.R_reads' HO528.out).2.1); rintro e w13 ⟨v532, rfl, ho0, hb⟩; refine ⟨_, rfl, ?_⟩; replace HO528 := Aside0.mk (Kd.R_below (kr_ HO528) hb); have HO533 := Aside0.mk (Kd.R_lower ho0 (below_size (bwg_ HB (IsS72.ge HI522.out)))); replace HB := Aside0.mk (below_step (bwg_ HB (IsS72.ge HI522.out)) hb); replace HI522 := Aside0.mk (IsS72.below (is72_ HI522) hb); clear hb; (try clear ho0); obtain ⟨Ao14, co14, eo14⟩ := Kd.R_slice HO533.out; subst eo14) | ((with_reducible refine gate_callee (f := 32) rfl ?_); refine gL_ (some 17) Tryd.func32 #[.pointer (some ⟨g522, 0, none⟩), .int .i64 (t531.length : Int)] ?_; (with_reducible refine (spec_l1Below.calls g522 t519 t529 t530 (t531.length : Int) t534 t535 t536 w _ ?side1 ?side2 A6.out).mono ?_); (case side1 => exact is72_ HI522); (case side2 => repeat (first | (with_reducible first | exact HB.out | apply below_alloc | apply pw_below_drewN | apply below_drew1 | refine below_set ?_ (IsS72.ge HI522.out)) | exact HB.out)); rintro e w15 ⟨rfl, hi, hb, hk⟩; refine ⟨_, rfl, ?_⟩; replace HO528 := Aside0.mk (Kd.R_mono (Kd.R_keep (IsS72.apart (show IsS72 w _ g522 t519 t529 t530 from is72_ HI522) (kr_ HO528) (by decide)) hk (fun _ h => h.2)) (fun _ h => h.1)); replace HO533 := Aside0.mk (Kd.R_mono (Kd.R_keep (IsS72.apart (show IsS72 w _ g522 t519 t529 t530 from is72_ HI522) (kr_ HO533) (by decide)) hk (fun _ h => h.2)) (fun _ h => h.1)); replace HB := Aside0.mk (hb); replace HI522 := Aside0.mk (hi); clear hb hk hi) | ((with_reducible refine gate_callee (f := 32) rfl ?_); refine gL_ (some 19) Tryd.func32 #[.pointer (some ⟨g522, 0, none⟩), .int .i64 6] ?_; (with_reducible refine (spec_l1Below.calls g522 t519 t535 t536 6 t537 t538 t539 w _ ?side1 ?side2 A7.out).mono ?_); (case side1 => exact is72_ HI522); (case side2 => repeat (first | (with_reducible first | exact HB.out | apply below_alloc | apply pw_below_drewN | apply below_drew1 | refine below_set ?_ (IsS72.ge HI522.out)) | exact HB.out)); rintro e w16 ⟨rfl, hi, hb, hk⟩; refine ⟨_, rfl, ?_⟩; replace HO528 := Aside0.mk (Kd.R_mono (Kd.R_keep (IsS72.apart (show IsS72 w _ g522 t519 t535 t536 from is72_ HI522) (kr_ HO528) (by decide)) hk (fun _ h => h.2)) (fun _ h => h.1)); replace HO533 := Aside0.mk (Kd.R_mono (Kd.R_keep (IsS72.apart (show IsS72 w _ g522 t519 t535 t536 from is72_ HI522) (kr_ HO533) (by decide)) hk (fun _ h => h.2)) (fun _ h => h.1)); replace HB := Aside0.mk (hb); replace HI522 := Aside0.mk (hi); clear hb hk hi))
 (try simp only [Act.put, List.setIfInBounds_toArray, List.set_cons_zero, List.set_cons_succ])
 go_cut [20] (fun v20 wc => ∃ (kq : Nat) (x20_7 : Bool), v20 = .bool x20_7 ∧ Aside0 (spec_DrawUnpackTree.j0 kq t531 t534 t537 x20_7 t519 t538 t539 = some r) ∧ Aside0 (kq ≤ k) ∧ Aside0 (Kd.R (Kd.int .u8) 5 wc w.heap.size (fun _ => True) (.slice Ao14 t531.length co14) t531) ∧ Aside0 (IsS72 w wc g522 t519 t538 t539) ∧ Aside0 (Below w.heap.size w wc))
 case first =>
  have H := HC8.out
  clear HC8
  by_cases c17 : t537 = 0
  {
  rw [if_pos c17] at H
  have c17b0 : (t537 == 0) = true := beq_iff_eq.mpr c17
  have c17b1 : (t537 != 0) = false := bne_eq_false_iff_eq.mpr c17
  clear c17
  (first | rw [c17b0] | (simp only [i64_w, i32_w]; rw [c17b0]) | skip)
  have H' := Aside0.mk H
  clear H
  go_wp2
  go_meet
  case rel => exact ⟨_, ((t537 == 0)), (by first | rfl | (simp; done) | (simp [*]; done)), H', ⟨by first | omega | exact Nat.le_refl _⟩, ⟨kr_ HO533⟩, ⟨is72_ HI522⟩, ⟨bwg_ HB (IsS72.ge HI522.out)⟩⟩}
  {
  rw [if_neg c17] at H
  have c17b0 : (t537 == 0) = false := beq_eq_false_iff_ne.mpr c17
  have c17b1 : (t537 != 0) = true := bne_iff_ne.mpr c17
  (first | rw [c17b0] | (simp only [i64_w, i32_w]; rw [c17b0]) | skip)
  have H' := Aside0.mk H
  clear H
  go_wp2
  go_meet
  case rel => exact ⟨_, ((t537 == 1)), (by first | rfl | (simp; done) | (simp [*]; done)), H', ⟨by first | omega | exact Nat.le_refl _⟩, ⟨kr_ HO533⟩, ⟨is72_ HI522⟩, ⟨bwg_ HB (IsS72.ge HI522.out)⟩⟩}
 case rest =>
  clear HC8
  try clear c1
  try clear c2
  try clear p2
  try clear c3
  try clear c13
  try clear c17
  try clear c17b0
  try clear c17b1
  obtain ⟨kq, x20_7, rfl, HA, HJ7, HO_4, HI522, HB⟩ := hcut
  cases kq with
  | zero => exact absurd HA.out (by simp [spec_DrawUnpackTree.j0])
  | succ kj7 =>
   have H := HA.out
   clear HA
   simp only [spec_DrawUnpackTree.j0] at H
   by_cases c18 : x20_7 = true
   {
   subst c18
   rw [if_pos rfl] at H
   replace H := Option.bind_eq_some_iff.mp H
   obtain ⟨⟨t540, t541, t542⟩, A190, H⟩ := H
   have A19 := Aside0.mk A190
   clear A190
   by_cases c20 : 0 ≤ t534
   {
   rw [if_pos c20] at H
   have c20b0 := decide_eq_true c20
   clear c20
   by_cases c21 : t534 < (t531.length : Int)
   {
   rw [if_pos c21] at H
   have c21b0 := decide_eq_true c21
   clear c21
   obtain ⟨y543, hy543⟩ : ∃ y_ : List Int, y_ = (t531.set (t534 : Int).toNat ((t540) % 256)) := ⟨_, rfl⟩
   replace H : (some y543) = some r := rH_ hy543 H
   have Ny543 := Aside0.mk hy543
   clear hy543
   obtain rfl := Option.some.inj H
   go_wp2_with (first | ((with_reducible refine gate_callee (f := 32) rfl ?_); refine gL_ (some 24) Tryd.func32 #[.pointer (some ⟨g522, 0, none⟩), .int .i64 256] ?_; (with_reducible refine (spec_l1Below.calls g522 t519 t538 t539 256 t540 t541 t542 w _ ?side1 ?side2 A19.out).mono ?_); (case side1 => exact is72_ HI522); (case side2 => repeat (first | (with_reducible first | exact HB.out | apply below_alloc | apply pw_below_drewN | apply below_drew1 | refine below_set ?_ (IsS72.ge HI522.out)) | exact HB.out)); rintro e w23 ⟨rfl, hi, hb, hk⟩; refine ⟨_, rfl, ?_⟩; replace HO_4 := Aside0.mk (Kd.R_mono (Kd.R_keep (IsS72.apart (show IsS72 w _ g522 t519 t538 t539 from is72_ HI522) (kr_ HO_4) (by decide)) hk (fun _ h => h.2)) (fun _ h => h.1)); replace HB := Aside0.mk (hb); replace HI522 := Aside0.mk (hi); clear hb hk hi; have p22 : 0 ≤ (t534 : Int) := dA_; have q22 : (t534 : Int) < ((t531.length : Int) : Int) := dA_; obtain ⟨go22, co22, eo22, gb22, gl22, cl22, HG22⟩ := Kd.R_form HO_4.out (by omega); (first | cases eo22 | (injection eo22 with ea_ en_ ec_; (first | subst ea_ | (injection ea_ with ea_; subst ea_)); subst ec_; clear en_)); have GB22 := Aside0.mk gb22; have GG22 := Aside0.mk HG22; clear gb22 gl22 HG22; obtain ⟨hx22_0, hf22_0⟩ := Kd.R_celln 0 HO_4.out (t534 : Int) p22 q22; replace p22 := eq_true p22; replace q22 := eq_true q22; obtain ⟨hy24_, hz24_⟩ := Kd.R_celln 0 HO_4.out (t534 : Int) (dA_) (dA_); have HP24 := Kd.R_putg HO_4.out (t534 : Int) ((t540) % 256)) | ((with_reducible refine gate_store (t := 5) (p := 29) rfl ?_); refine store_event (t := 5) (p := 29) (v := ?vo_w25) (w1 := (w23.setCell ⟨go22, (t534 : Int).toNat, none⟩ (.int .u8 ((t540) % 256)))) ?hg ?ho ?hn ?hr ?_; (case ho => rfl); (case hg => rfl); (case hn => rfl); (case hr => first | (go_simp; done) | (go_simp; rfl)); intro w25 hw; have hg : w23.grownBy w25 (some go22) := (by rw [hw]; exact HP24.2); have hp_ : Kd.R (Kd.int .u8) 5 w25 w.heap.size (fun _ => True) (.slice (some ⟨go22, 0, none⟩) t531.length co14) y543 := (by rw [hw, Ny543.out]; exact HP24.1); clear HP24; replace HI522 := Aside0.mk (IsS72.grown (is72_ HI522) hg (IsS72.own_ne HI522.out HO_4.out (by decide))); replace HO_4 := Aside0.mk (hp_); replace HB := Aside0.mk ((by rw [hw]; exact below_set (HB.out) GB22.out : Below w.heap.size w w25)); clear hg hw hp_))
   go_ret
   exact ⟨_, eR_, kr_ HO_4, bwg_ HB (IsS72.ge HI522.out)⟩}
   {
   rw [if_neg c21] at H
   exact absurd H (by simp)}}
   {
   rw [if_neg c20] at H
   exact absurd H (by simp)}}
   {
   replace c18 := Bool.eq_false_iff.mpr c18
   subst c18
   rw [if_neg (show ¬ (false = true) by decide)] at H
   by_cases c26 : t537 = 2
   {
   rw [if_pos c26] at H
   have c26b0 : (t537 == 2) = true := beq_iff_eq.mpr c26
   have c26b1 : (t537 != 2) = false := bne_eq_false_iff_eq.mpr c26
   clear c26
   by_cases c27 : 0 ≤ t534
   {
   rw [if_pos c27] at H
   have c27b0 := eq_true c27
   have c27b1 := decide_eq_true c27
   clear c27
   by_cases c28 : t534 ≤ (t531.length : Int)
   {
   rw [if_pos c28] at H
   have c28b0 := eq_true c28
   have c28b1 := decide_eq_true c28
   clear c28
   obtain ⟨y544, hy544⟩ : ∃ y_ : List Int, y_ = (t531.take (t534 : Int).toNat) := ⟨_, rfl⟩
   replace H : (some y544) = some r := rH_ hy544 H
   have Ny544 := Aside0.mk hy544
   clear hy544
   obtain rfl := Option.some.inj H
   have q29 : (t534 : Int) ≤ ((t531.length : Int) : Int) := dA_
   obtain ⟨i029, hi029, _, hsz29, _⟩ := info_parts info5
   have hcut29 := cut_to (P := Tryd.prog) 22 5 .i64 Tryd.underlying22 hi029 Ao14 t531.length co14 t534 (dA_) q29 (Kd.R_reads' HO_4.out).2.1
   have hr29 := Kd.R_take (m := (t534 : Int).toNat) HO_4.out (by omega)
   have hy29 : y544.length = (t534 : Int).toNat := (by rw [Ny544.out, List.length_take]; omega)
   rw [← Ny544.out] at hr29
   rw [← hy29] at hr29 hcut29
   clear hy29 hi029 hsz29 HO_4
   have HO546 := Aside0.mk hr29
   clear hr29
   replace q29 := eq_true q29
   go_wp2
   go_ret
   exact ⟨_, eR_, kr_ HO546, bwg_ HB (IsS72.ge HI522.out)⟩}
   {
   rw [if_neg c28] at H
   exact absurd H (by simp)}}
   {
   rw [if_neg c27] at H
   exact absurd H (by simp)}}
   {
   rw [if_neg c26] at H
   have c26b0 : (t537 == 2) = false := beq_eq_false_iff_ne.mpr c26
   have c26b1 : (t537 != 2) = true := bne_iff_ne.mpr c26
   by_cases c30 : t537 = 3
   {
   rw [if_pos c30] at H
   have c30b0 : (t537 == 3) = true := beq_iff_eq.mpr c30
   have c30b1 : (t537 != 3) = false := bne_eq_false_iff_eq.mpr c30
   clear c30
   by_cases c31 : t531.length < 140737488355328
   {
   rw [if_pos c31] at H
   have LMc31 := Aside0.mk c31
   clear c31
   obtain ⟨y547, hy547⟩ : ∃ y_ : List Int, y_ = (t531 ++ [0]) := ⟨_, rfl⟩
   replace H : (some y547) = some r := rH_ hy547 H
   have Ny547 := Aside0.mk hy547
   clear hy547
   obtain rfl := Option.some.inj H
   go_wp2_with (first | ((with_reducible refine gate_builtin (b := .append) (xs := #[.tmp 37, .tmp 38]) rfl ?_); at_builtin; refine Kd.R_append (Kd.int .u8) (w0 := w) w.heap.size rfl (.tmp 37) (.tmp 38) 22 5 (.int .u8 0) 1 rfl Tryd.underlying22 info5 rfl (by decide) (by omega) (.slice Ao14 t531.length co14) t531 0 [.int .u8 0] (fun _ => True) (fun _ => False) rfl rfl ?aP (fun _ hk => hk.elim) ?aF ?aO ?aB ?aS ?aL ?_; (case aP => exact rfl); (case aB => exact (bwg_ HB (IsS72.ge HI522.out))); (case aF => exact (fun _ _ => trivial)); (case aO => exact (kr_ HO_4)); (case aS => exact (below_size (bwg_ HB (IsS72.ge HI522.out)))); (case aL => have := LMc31.out; omega); intro v548 w32 ho hb hg hat; rw [← Ny547.out] at ho; replace HI522 := Aside0.mk (IsS72.grown (is72_ HI522) hg (IsS72.own_ne HI522.out HO_4.out (by decide))); replace HB := Aside0.mk (hb); have HO549 := Aside0.mk (ho); clear HO_4; clear ho hb hg hat))
   go_ret
   exact ⟨_, eR_, kr_ HO549, bwg_ HB (IsS72.ge HI522.out)⟩}
   {
   rw [if_neg c31] at H
   exact absurd H (by simp)}}
   {
   rw [if_neg c30] at H
   have c30b0 : (t537 == 3) = false := beq_eq_false_iff_ne.mpr c30
   have c30b1 : (t537 != 3) = true := bne_iff_ne.mpr c30
   obtain rfl := Option.some.inj H
   go_wp2
   go_ret
   exact ⟨_, eR_, kr_ HO_4, bwg_ HB (IsS72.ge HI522.out)⟩}}}
def IsS58 (w0 W : World) (g : Nat) (f0 : List Int) (f1 : Int) (f2 : Bool) : Prop := ∃ A0 c0, W.heap[g]? = some (.cells #[.slice A0 f0.length c0, .int .i64 f1, .bool f2] 58 (0, 0)) ∧ w0.heap.size ≤ g ∧ Kd.C (Kd.int .u8) w0 A0 f0.length f0
theorem IsS58.grown {w0 W : World} {g : Nat} {f0 : List Int} {f1 : Int} {f2 : Bool} {W1 : World} {row : Option Nat} (h : IsS58 w0 W g f0 f1 f2) (hw : W.grownBy W1 row) (hne : some g ≠ row) : IsS58 w0 W1 g f0 f1 f2 := by
 obtain ⟨A0, c0, hb, hg, hr0⟩ := h
 exact ⟨A0, c0, blk_grown hb hw hne, hg, hr0⟩
theorem IsS58.fresh {w0 W : World} {g : Nat} {f0 : List Int} {f1 : Int} {f2 : Bool} (h : IsS58 w0 W g f0 f1 f2) : ∀ k, W.heap.size ≤ k → k ≠ g := by
 obtain ⟨A0, c0, hb, hg, hr0⟩ := h
 exact Kd.freshB hb
theorem IsS58.kept {w0 W : World} {g : Nat} {f0 : List Int} {f1 : Int} {f2 : Bool} {W1 : World} {S : Nat → Prop} (h : IsS58 w0 W g f0 f1 f2) (hk : Kept W W1 S) (hne : ¬ S g) : IsS58 w0 W1 g f0 f1 f2 := by
 obtain ⟨A0, c0, hb, hg, hr0⟩ := h
 exact ⟨A0, c0, blk_kept hb hk hne, hg, hr0⟩
theorem IsS58.below {w0 W : World} {g : Nat} {f0 : List Int} {f1 : Int} {f2 : Bool} {W1 : World} (h : IsS58 w0 W g f0 f1 f2) (hw : Below W.heap.size W W1) : IsS58 w0 W1 g f0 f1 f2 := h.grown (grown_of_below hw none) (by simp)
theorem IsS58.alloc {w0 W : World} {g : Nat} {f0 : List Int} {f1 : Int} {f2 : Bool} (h : IsS58 w0 W g f0 f1 f2) (o : Obj) : IsS58 w0 (W.alloc o) g f0 f1 f2 := h.below (below_alloc (Below.refl _ _) o)
theorem IsS58.drewN {w0 W : World} {g : Nat} {f0 : List Int} {f1 : Int} {f2 : Bool} (h : IsS58 w0 W g f0 f1 f2) (m : Nat) : IsS58 w0 (W.drewN m) g f0 f1 f2 := h
theorem IsS58.drew {w0 W : World} {g : Nat} {f0 : List Int} {f1 : Int} {f2 : Bool} (h : IsS58 w0 W g f0 f1 f2) : IsS58 w0 W.drew g f0 f1 f2 := h
theorem IsS58.at_ {w0 W : World} {g : Nat} {f0 : List Int} {f1 : Int} {f2 : Bool} {w' : World} {m : Nat} (hq : W.drewN m = w') (h : IsS58 w0 W g f0 f1 f2) : IsS58 w0 w' g f0 f1 f2 := by subst hq; exact IsS58.drewN h m
theorem IsS58.apart {w0 W : World} {g : Nat} {f0 : List Int} {f1 : Int} {f2 : Bool} {α : Type} {d : Kd α} {e : Nat} {base : Nat} {ok : Nat → Prop} {v : Value} {xs : List α} (h : IsS58 w0 W g f0 f1 f2) (ho : d.R e W base ok v xs) (ht : ∀ q, q ∈ e :: d.E → q ≠ 58) : d.R e W base (fun k => ok k ∧ k ≠ g) v xs := by
 obtain ⟨A0, c0, hb, hg, hr0⟩ := h
 exact Kd.R_types ho hb ht
theorem IsS58.own_ne {w0 W : World} {g : Nat} {f0 : List Int} {f1 : Int} {f2 : Bool} {α : Type} {d : Kd α} {e : Nat} {base : Nat} {ok : Nat → Prop} {v : Value} {xs : List α} (h : IsS58 w0 W g f0 f1 f2) (ho : d.R e W base ok v xs) (ht : e ≠ 58) : some g ≠ v.ownBlock := by
 obtain ⟨A0, c0, hb, hg, hr0⟩ := h
 exact Kd.R_ne ho hb ht
theorem IsS58.lt {w0 W : World} {g : Nat} {f0 : List Int} {f1 : Int} {f2 : Bool} (h : IsS58 w0 W g f0 f1 f2) : g < W.heap.size := by
 obtain ⟨A0, c0, hb, hg, hr0⟩ := h
 exact blk_lt hb
theorem IsS58.ge {w0 W : World} {g : Nat} {f0 : List Int} {f1 : Int} {f2 : Bool} (h : IsS58 w0 W g f0 f1 f2) : w0.heap.size ≤ g := by
 obtain ⟨A0, c0, hb, hg, hr0⟩ := h
 exact hg
theorem IsS58.ne_blk {w0 W : World} {g : Nat} {f0 : List Int} {f1 : Int} {f2 : Bool} {a : Nat} {cs : Array Value} {t : TypeId} {fr : Nat × Nat} (h : IsS58 w0 W g f0 f1 f2) (hb2 : W.heap[a]? = some (.cells cs t fr)) (ht : t ≠ 58) : g ≠ a := by
 obtain ⟨A0, c0, hb, hg, hr0⟩ := h
 rintro rfl
 rw [hb] at hb2
 injection hb2 with hb2
 injection hb2 with _ ht2
 exact ht ht2.symm
theorem IsS58.far {w0 W : World} {g : Nat} {f0 : List Int} {f1 : Int} {f2 : Bool} {p : Addr} (h : IsS58 w0 W g f0 f1 f2) (hne : g ≠ p.block) (u : Value) : IsS58 w0 (W.setCell p u) g f0 f1 f2 := by
 obtain ⟨A0, c0, hb, hg, hr0⟩ := h
 exact ⟨A0, c0, blk_far hb hne u, hg, hr0⟩
theorem cellS58_0 {W : World} {g : Nat} {A0 : Option Addr} {c0 : Nat} {f0 : List Int} {f1 : Int} {f2 : Bool} (h : W.heap[g]? = some (.cells #[.slice A0 f0.length c0, .int .i64 f1, .bool f2] 58 (0, 0))) : W.cell? ⟨g, 0, none⟩ = some (.slice A0 f0.length c0) := (blk_cell h 0).trans rfl
theorem cellS58_1 {W : World} {g : Nat} {A0 : Option Addr} {c0 : Nat} {f0 : List Int} {f1 : Int} {f2 : Bool} (h : W.heap[g]? = some (.cells #[.slice A0 f0.length c0, .int .i64 f1, .bool f2] 58 (0, 0))) : W.cell? ⟨g, 1, none⟩ = some (.int .i64 f1) := (blk_cell h 1).trans rfl
theorem IsS58.set_1 {w0 W : World} {g : Nat} {f0 : List Int} {f1 : Int} {f2 : Bool} (h : IsS58 w0 W g f0 f1 f2) (x : Int) : IsS58 w0 (W.setCell ⟨g, 1, none⟩ (.int .i64 x)) g f0 x f2 := by
 obtain ⟨A0, c0, hb, hg, hr0⟩ := h
 exact ⟨A0, c0, by simpa using blk_set hb 1 (.int .i64 x), hg, hr0⟩
theorem cellS58_2 {W : World} {g : Nat} {A0 : Option Addr} {c0 : Nat} {f0 : List Int} {f1 : Int} {f2 : Bool} (h : W.heap[g]? = some (.cells #[.slice A0 f0.length c0, .int .i64 f1, .bool f2] 58 (0, 0))) : W.cell? ⟨g, 2, none⟩ = some (.bool f2) := (blk_cell h 2).trans rfl
theorem IsS58.set_2 {w0 W : World} {g : Nat} {f0 : List Int} {f1 : Int} {f2 : Bool} (h : IsS58 w0 W g f0 f1 f2) (x : Bool) : IsS58 w0 (W.setCell ⟨g, 2, none⟩ (.bool x)) g f0 f1 x := by
 obtain ⟨A0, c0, hb, hg, hr0⟩ := h
 exact ⟨A0, c0, by simpa using blk_set hb 2 (.bool x), hg, hr0⟩
theorem IsS58.new (w0 W : World) (A0 : Option Addr) (c0 : Nat) (f0 : List Int) (f1 : Int) (f2 : Bool) (hB : Below w0.heap.size w0 W) (hr0 : Kd.C (Kd.int .u8) w0 A0 f0.length f0) : IsS58 w0 (W.alloc (.cells #[.slice A0 f0.length c0, .int .i64 f1, .bool f2] 58)) W.heap.size f0 f1 f2 := ⟨A0, c0, by simpa using heap_alloc_new W _, hB.size, hr0⟩
def spec_l10Read.l0 : Nat → Int → Int → List Int → Int → Bool → Option (Int × Int × Bool)
 | 0, _, _, _, _, _ => none
 | k + 1, x3, x4, x1000, x1001, x1002 => if x4 < 28 then (if x1001 ≥ (x1000.length : Int) then (some (0, x1001, true)) else (if 0 ≤ x1001 then (if x1001 < (x1000.length : Int) then (if 0 ≤ x4 then (if (rd x1000 x1001) < 128 then (some (wrap64 (x3 + (shl .i64 (wrap64 (Go.bits .and .u8 (rd x1000 x1001) 127)) x4)), wrap64 (x1001 + 1), x1002)) else (spec_l10Read.l0 k (wrap64 (x3 + (shl .i64 (wrap64 (Go.bits .and .u8 (rd x1000 x1001) 127)) x4))) (IntKind.u64.wrap (x4 + 7)) x1000 (wrap64 (x1001 + 1)) x1002)) else (none)) else (none)) else (none))) else (some (0, x1001, true))
def spec_l10Read.f (k : Nat) (s0_0 : List Int) (s0_1 : Int) (s0_2 : Bool) : Option (Int × Int × Bool) := spec_l10Read.l0 k 0 0 s0_0 s0_1 s0_2
def spec_l10Same.f (l0 : List Int) (l1 : List Int) : Option (Bool) := some ((strOfNums l0).toList == (strOfNums l1).toList)
theorem spec_l10Same.calls (A0 : Option Addr) (c0 : Nat) (l0 : List Int) (A1 : Option Addr) (c1 : Nat) (l1 : List Int) (r : Bool) (w : World) (hr0 : Kd.C (Kd.int .u8) w A0 l0.length l0) (hc0 : l0.length ≤ c0) (hr1 : Kd.C (Kd.int .u8) w A1 l1.length l1) (hc1 : l1.length ≤ c1) (h : spec_l10Same.f l0 l1 = some r) :
 Calls Tryd.prog 35 #[.slice A0 l0.length c0, .slice A1 l1.length c1] w fun e w' => e = .returned (.bool r) ∧ Drawn0 w w' := by
 have HR0 := Aside0.mk hr0
 have HC0 := Aside0.mk hc0
 clear hr0 hc0
 have HR1 := Aside0.mk hr1
 have HC1 := Aside0.mk hc1
 clear hr1 hc1
 have H : (some ((strOfNums l0).toList == (strOfNums l1).toList)) = some r := h
 clear h
 obtain rfl := Option.some.inj H
 have hcv3 := Kd.C_string (P := Tryd.prog) (A := A0) (c := c0) Tryd.underlying22 Tryd.underlying5 Tryd.underlying9 HR0.out
 have hcv4 := Kd.C_string (P := Tryd.prog) (A := A1) (c := c1) Tryd.underlying22 Tryd.underlying5 Tryd.underlying9 HR1.out
 go_enter Tryd.func35, Tryd.ntmps35
 go_wp2
 go_ret
 exact ⟨eS_, dR_⟩
def spec_UnpackTree.I (A0 : Option Addr) (c0 : Nat) (w0 W : World) (g : Nat) (f0 : List Int) (f1 : Int) (f2 : Bool) : Prop := ∃ A1 c1, W.heap[g]? = some (.cells #[.slice A1 f0.length c1, .int .i64 f1, .bool f2] 58 (0, 0)) ∧ (w0.heap.size ≤ g ∧ A1 = A0 ∧ c1 = c0) ∧ Kd.C (Kd.int .u8) w0 A1 f0.length f0
theorem spec_UnpackTree.I.grown {A0 : Option Addr} {c0 : Nat} {w0 W : World} {g : Nat} {f0 : List Int} {f1 : Int} {f2 : Bool} {W1 : World} {row : Option Nat} (h : spec_UnpackTree.I A0 c0 w0 W g f0 f1 f2) (hw : W.grownBy W1 row) (hne : some g ≠ row) : spec_UnpackTree.I A0 c0 w0 W1 g f0 f1 f2 := by
 obtain ⟨A1, c1, hb, hg, hr⟩ := h
 exact ⟨A1, c1, blk_grown hb hw hne, hg, hr⟩
theorem spec_UnpackTree.I.below {A0 : Option Addr} {c0 : Nat} {w0 W : World} {g : Nat} {f0 : List Int} {f1 : Int} {f2 : Bool} {W1 : World} (h : spec_UnpackTree.I A0 c0 w0 W g f0 f1 f2) (hw : Below W.heap.size W W1) : spec_UnpackTree.I A0 c0 w0 W1 g f0 f1 f2 := h.grown (grown_of_below hw none) (by simp)
theorem spec_UnpackTree.I.alloc {A0 : Option Addr} {c0 : Nat} {w0 W : World} {g : Nat} {f0 : List Int} {f1 : Int} {f2 : Bool} (h : spec_UnpackTree.I A0 c0 w0 W g f0 f1 f2) (o : Obj) : spec_UnpackTree.I A0 c0 w0 (W.alloc o) g f0 f1 f2 := h.below (below_alloc (Below.refl _ _) o)
theorem spec_UnpackTree.I.drewN {A0 : Option Addr} {c0 : Nat} {w0 W : World} {g : Nat} {f0 : List Int} {f1 : Int} {f2 : Bool} (h : spec_UnpackTree.I A0 c0 w0 W g f0 f1 f2) (m : Nat) : spec_UnpackTree.I A0 c0 w0 (W.drewN m) g f0 f1 f2 := h
theorem spec_UnpackTree.I.drew {A0 : Option Addr} {c0 : Nat} {w0 W : World} {g : Nat} {f0 : List Int} {f1 : Int} {f2 : Bool} (h : spec_UnpackTree.I A0 c0 w0 W g f0 f1 f2) : spec_UnpackTree.I A0 c0 w0 W.drew g f0 f1 f2 := h
theorem spec_UnpackTree.I.ge {A0 : Option Addr} {c0 : Nat} {w0 W : World} {g : Nat} {f0 : List Int} {f1 : Int} {f2 : Bool} (h : spec_UnpackTree.I A0 c0 w0 W g f0 f1 f2) : w0.heap.size ≤ g := by
 obtain ⟨A1, c1, hb, hg, hr⟩ := h
 exact hg.1
theorem spec_UnpackTree.I.lt {A0 : Option Addr} {c0 : Nat} {w0 W : World} {g : Nat} {f0 : List Int} {f1 : Int} {f2 : Bool} (h : spec_UnpackTree.I A0 c0 w0 W g f0 f1 f2) : g < W.heap.size := by
 obtain ⟨A1, c1, hb, hg, hr⟩ := h
 exact blk_lt hb
theorem spec_UnpackTree.I.blk {A0 : Option Addr} {c0 : Nat} {w0 W : World} {g : Nat} {f0 : List Int} {f1 : Int} {f2 : Bool} (h : spec_UnpackTree.I A0 c0 w0 W g f0 f1 f2) : W.heap[g]? = some (.cells #[.slice A0 f0.length c0, .int .i64 f1, .bool f2] 58 (0, 0)) ∧ Kd.C (Kd.int .u8) w0 A0 f0.length f0 := by
 obtain ⟨A1, c1, hb, ⟨hg, rfl, rfl⟩, hr⟩ := h
 exact ⟨hb, hr⟩
theorem spec_UnpackTree.I.far {A0 : Option Addr} {c0 : Nat} {w0 W : World} {g : Nat} {f0 : List Int} {f1 : Int} {f2 : Bool} {p : Addr} (h : spec_UnpackTree.I A0 c0 w0 W g f0 f1 f2) (hne : g ≠ p.block) (u : Value) : spec_UnpackTree.I A0 c0 w0 (W.setCell p u) g f0 f1 f2 := by
 obtain ⟨A1, c1, hb, hg, hr⟩ := h
 exact ⟨A1, c1, blk_far hb hne u, hg, hr⟩
theorem spec_UnpackTree.I.set_1 {A0 : Option Addr} {c0 : Nat} {w0 W : World} {g : Nat} {f0 : List Int} {f1 : Int} {f2 : Bool} (h : spec_UnpackTree.I A0 c0 w0 W g f0 f1 f2) (x : Int) : spec_UnpackTree.I A0 c0 w0 (W.setCell ⟨g, 1, none⟩ (.int .i64 x)) g f0 x f2 := by
 obtain ⟨A1, c1, hb, hg, hr⟩ := h
 exact ⟨A1, c1, by simpa using blk_set hb 1 (.int .i64 x), hg, hr⟩
theorem spec_UnpackTree.I.set_2 {A0 : Option Addr} {c0 : Nat} {w0 W : World} {g : Nat} {f0 : List Int} {f1 : Int} {f2 : Bool} (h : spec_UnpackTree.I A0 c0 w0 W g f0 f1 f2) (x : Bool) : spec_UnpackTree.I A0 c0 w0 (W.setCell ⟨g, 2, none⟩ (.bool x)) g f0 f1 x := by
 obtain ⟨A1, c1, hb, hg, hr⟩ := h
 exact ⟨A1, c1, by simpa using blk_set hb 2 (.bool x), hg, hr⟩
theorem spec_UnpackTree.read_ (A0 : Option Addr) (c0 : Nat) (k : Nat) (g : Nat) (s0_0 : List Int) (s0_1 : Int) (s0_2 : Bool) (r1 : Int) (r2 : Int) (r3 : Bool) (w0 w : World) (hI : spec_UnpackTree.I A0 c0 w0 w g s0_0 s0_1 s0_2) (hB : Below w0.heap.size w0 w) (h : spec_l10Read.f k s0_0 s0_1 s0_2 = some (r1, r2, r3)) :
 Calls Tryd.prog 33 #[.pointer (some ⟨g, 0, none⟩)] w fun e w' => e = .returned (.int .i64 r1) ∧ spec_UnpackTree.I A0 c0 w0 w' g s0_0 r2 r3 ∧ Below w0.heap.size w0 w' ∧ KeepBut w w' g none := by
 have HI0 := Aside0.mk hI
 have HK := Aside0.mk (KeepBut.refl w g none)
 have HL := Aside0.mk hB.size
 clear hI
 have HW0 := Aside0.mk hB.size
 have HB := Aside0.mk hB
 clear hB
 have H : (spec_l10Read.l0 k 0 0 s0_0 s0_1 s0_2) = some (r1, r2, r3) := h
 clear h
 have H' := Aside0.mk H
 clear H
 go_enter Tryd.func33, Tryd.ntmps33
 go_wp2
 repeat (go_quiet (fail); try go_wp2)
 go_loopg [3, 4] k (fun kq v3 v4 w' => ∃ (x3_1 : Int) (x4_1 : Int) (x1001_1 : Int) (x1002_1 : Bool), v3 = .int .i64 x3_1 ∧ v4 = .int .u64 x4_1 ∧ Aside0 (spec_l10Read.l0 kq x3_1 x4_1 s0_0 x1001_1 x1002_1 = some (r1, r2, r3)) ∧ Aside0 (kq ≤ k) ∧ Aside0 (spec_UnpackTree.I A0 c0 w0 w' g s0_0 x1001_1 x1002_1) ∧ Aside0 (KeepBut w w' g none) ∧ Aside0 (Below w0.heap.size w0 w'))
 case atStart => exact ⟨(0), (0), (s0_1), (s0_2), (by first | rfl | (simp; done) | (simp [*]; done)), (by first | rfl | (simp; done) | (simp [*]; done)), H', ⟨Nat.le_refl _⟩, ⟨by repeat (first | (with_reducible first | exact HI0.out | apply spec_UnpackTree.I.alloc | apply spec_UnpackTree.I.drewN | apply spec_UnpackTree.I.drew | apply spec_UnpackTree.I.set_1 | apply spec_UnpackTree.I.set_2) | exact HI0.out)⟩, ⟨kb_ HK⟩, ⟨by repeat (first | (with_reducible first | exact HB.out | apply below_alloc | apply pw_below_drewN | apply below_drew1 | refine below_set ?_ (spec_UnpackTree.I.ge HI0.out)) | exact HB.out)⟩⟩
 case round =>
  clear H'
  obtain ⟨x3_1, x4_1, x1001_1, x1002_1, rfl, rfl, HA, HK1, HI0, HK, HB⟩ := hrel
  cases gk with
  | zero => exact absurd HA.out (by simp [spec_l10Read.l0])
  | succ k1 =>
   have H := HA.out
   clear HA
   simp only [spec_l10Read.l0] at H
   by_cases c2 : x4_1 < 28
   {
   rw [if_pos c2] at H
   have c2b0 := decide_eq_true c2
   clear c2
   by_cases c3 : x1001_1 ≥ (s0_0.length : Int)
   {
   rw [if_pos c3] at H
   have c3b0 : decide ((s0_0.length : Int) ≤ x1001_1) = true := decide_eq_true c3
   clear c3
   simp only [Option.some.injEq, Prod.mk.injEq] at H
   obtain ⟨rfl, rfl, rfl⟩ := H
   obtain ⟨ASz4_0, cSz4_0, HGz4, hgz4, HSz4_0⟩ := HI0.out
   have hcz4_0 := cellS58_0 HGz4
   have hcz4_1 := cellS58_1 HGz4
   have hcz4_2 := cellS58_2 HGz4
   have hfz4_1 := blk_frozen HGz4 1
   have hfz4_2 := blk_frozen HGz4 2
   clear HGz4 hgz4
   go_wp2
   repeat (go_quiet (fail); try go_wp2)
   go_ret
   exact ⟨eR_, by repeat (first | (with_reducible first | exact HI0.out | apply spec_UnpackTree.I.alloc | apply spec_UnpackTree.I.drewN | apply spec_UnpackTree.I.drew | apply spec_UnpackTree.I.set_1 | apply spec_UnpackTree.I.set_2) | exact HI0.out), by repeat (first | (with_reducible first | exact HB.out | apply below_alloc | apply pw_below_drewN | apply below_drew1 | refine below_set ?_ (spec_UnpackTree.I.ge HI0.out)) | exact HB.out), kb_ HK⟩}
   {
   rw [if_neg c3] at H
   have c3b0 : decide ((s0_0.length : Int) ≤ x1001_1) = false := decide_eq_false c3
   clear c3
   by_cases c5 : 0 ≤ x1001_1
   {
   rw [if_pos c5] at H
   have c5b0 := decide_eq_true c5
   clear c5
   by_cases c6 : x1001_1 < (s0_0.length : Int)
   {
   rw [if_pos c6] at H
   have c6b0 := decide_eq_true c6
   clear c6
   by_cases c7 : 0 ≤ x4_1
   {
   rw [if_pos c7] at H
   have c7b0 := eq_true c7
   have c7b1 := decide_eq_true c7
   clear c7
   obtain ⟨ji8, hji8⟩ : ∃ j_ : Int, (shl .i64 (wrap64 (Go.bits .and .u8 (rd s0_0 x1001_1) 127)) x4_1) = j_ := ⟨_, rfl⟩
   replace H : (if (rd s0_0 x1001_1) < 128 then (some (wrap64 (x3_1 + (ji8)), wrap64 (x1001_1 + 1), x1002_1)) else (spec_l10Read.l0 k1 (wrap64 (x3_1 + (ji8))) (IntKind.u64.wrap (x4_1 + 7)) s0_0 (wrap64 (x1001_1 + 1)) x1002_1)) = some (r1, r2, r3) := by first | (rw [hji8] at H; exact H) | (simp only [hji8] at H ⊢; exact H)
   have hji8_ : (IntKind.i64.wrap ((wrap64 (Go.bits .and .u8 (rd s0_0 x1001_1) 127)) * 2 ^ min x4_1.toNat 64)) = ji8 := hji8
   have hji8z : x4_1 ≤ 64 → (IntKind.i64.wrap ((wrap64 (Go.bits .and .u8 (rd s0_0 x1001_1) 127)) * 2 ^ x4_1.toNat)) = ji8 := shl_small hji8
   have hji8y : (wrap64 ((wrap64 (Go.bits .and .u8 (rd s0_0 x1001_1) 127)) * 2 ^ min x4_1.toNat 64)) = ji8 := (i64_w _).symm.trans hji8_
   have hji8x : x4_1 ≤ 64 → (wrap64 ((wrap64 (Go.bits .and .u8 (rd s0_0 x1001_1) 127)) * 2 ^ x4_1.toNat)) = ji8 := fun h_ => (i64_w _).symm.trans (hji8z h_)
   by_cases c9 : (rd s0_0 x1001_1) < 128
   {
   rw [if_pos c9] at H
   have c9b0 := decide_eq_true c9
   clear c9
   simp only [Option.some.injEq, Prod.mk.injEq] at H
   obtain ⟨rfl, rfl, rfl⟩ := H
   obtain ⟨ASz10_0, cSz10_0, HGz10, hgz10, HSz10_0⟩ := HI0.out
   have hcz10_0 := cellS58_0 HGz10
   have hcz10_1 := cellS58_1 HGz10
   have hcz10_2 := cellS58_2 HGz10
   have hfz10_1 := blk_frozen HGz10 1
   have hfz10_2 := blk_frozen HGz10 2
   clear HGz10 hgz10
   have p130 : 0 ≤ (x1001_1 : Int) := dA_
   have q130 : x1001_1 < (s0_0.length : Int) := dA_
   obtain ⟨ad130, e130, hx130_0⟩ := Kd.at_int HSz10_0 x1001_1 p130 q130
   cases e130
   replace hx130_0 := pw_cell_below HB.out hx130_0
   replace p130 := eq_true p130
   replace q130 := eq_true q130
   go_wp2
   repeat (go_quiet (fail); try go_wp2)
   go_ret
   exact ⟨by first | rfl | (simp [errW_none, errW_some] <;> rfl) | (simp only [← hji8]; first | rfl | (simp [errW_none, errW_some] <;> rfl)) | (simp [*, errW_none, errW_some] <;> rfl), by repeat (first | (with_reducible first | exact HI0.out | apply spec_UnpackTree.I.alloc | apply spec_UnpackTree.I.drewN | apply spec_UnpackTree.I.drew | apply spec_UnpackTree.I.set_1 | apply spec_UnpackTree.I.set_2) | exact HI0.out), by repeat (first | (with_reducible first | exact HB.out | apply below_alloc | apply pw_below_drewN | apply below_drew1 | refine below_set ?_ (spec_UnpackTree.I.ge HI0.out)) | exact HB.out), kb_ HK⟩}
   {
   rw [if_neg c9] at H
   have c9b0 := decide_eq_false c9
   clear c9
   have H' := Aside0.mk H
   clear H
   obtain ⟨ASz11_0, cSz11_0, HGz11, hgz11, HSz11_0⟩ := HI0.out
   have hcz11_0 := cellS58_0 HGz11
   have hcz11_1 := cellS58_1 HGz11
   have hcz11_2 := cellS58_2 HGz11
   have hfz11_1 := blk_frozen HGz11 1
   have hfz11_2 := blk_frozen HGz11 2
   clear HGz11 hgz11
   have p130 : 0 ≤ (x1001_1 : Int) := dA_
   have q130 : x1001_1 < (s0_0.length : Int) := dA_
   obtain ⟨ad130, e130, hx130_0⟩ := Kd.at_int HSz11_0 x1001_1 p130 q130
   cases e130
   replace hx130_0 := pw_cell_below HB.out hx130_0
   replace p130 := eq_true p130
   replace q130 := eq_true q130
   go_wp2
   repeat (go_quiet (fail); try go_wp2)
   go_roundg k1
   case measure => have := HK1.out; omega
   case rel => exact ⟨(wrap64 (x3_1 + (ji8))), (IntKind.u64.wrap (x4_1 + 7)), (wrap64 (x1001_1 + 1)), (x1002_1), (by first | rfl | (simp; done) | (simp only [← hji8] <;> (first | rfl | simp)) | (simp [*]; done)), (by first | rfl | (simp; done) | (simp [*]; done)), H', ⟨by have := HK1.out; omega⟩, ⟨by repeat (first | (with_reducible first | exact HI0.out | apply spec_UnpackTree.I.alloc | apply spec_UnpackTree.I.drewN | apply spec_UnpackTree.I.drew | apply spec_UnpackTree.I.set_1 | apply spec_UnpackTree.I.set_2) | exact HI0.out)⟩, ⟨kb_ HK⟩, ⟨by repeat (first | (with_reducible first | exact HB.out | apply below_alloc | apply pw_below_drewN | apply below_drew1 | refine below_set ?_ (spec_UnpackTree.I.ge HI0.out)) | exact HB.out)⟩⟩}}
   {
   rw [if_neg c7] at H
   exact absurd H (by simp)}}
   {
   rw [if_neg c6] at H
   exact absurd H (by simp)}}
   {
   rw [if_neg c5] at H
   exact absurd H (by simp)}}}
   {
   rw [if_neg c2] at H
   have c2b0 := decide_eq_false c2
   clear c2
   simp only [Option.some.injEq, Prod.mk.injEq] at H
   obtain ⟨rfl, rfl, rfl⟩ := H
   obtain ⟨ASz12_0, cSz12_0, HGz12, hgz12, HSz12_0⟩ := HI0.out
   have hcz12_0 := cellS58_0 HGz12
   have hcz12_1 := cellS58_1 HGz12
   have hcz12_2 := cellS58_2 HGz12
   have hfz12_1 := blk_frozen HGz12 1
   have hfz12_2 := blk_frozen HGz12 2
   clear HGz12 hgz12
   go_wp2
   repeat (go_quiet (fail); try go_wp2)
   go_ret
   exact ⟨eR_, by repeat (first | (with_reducible first | exact HI0.out | apply spec_UnpackTree.I.alloc | apply spec_UnpackTree.I.drewN | apply spec_UnpackTree.I.drew | apply spec_UnpackTree.I.set_1 | apply spec_UnpackTree.I.set_2) | exact HI0.out), by repeat (first | (with_reducible first | exact HB.out | apply below_alloc | apply pw_below_drewN | apply below_drew1 | refine below_set ?_ (spec_UnpackTree.I.ge HI0.out)) | exact HB.out), kb_ HK⟩}
def spec_UnpackTree.txt (k : Nat) (s0_0 : List Int) (s0_1 : Int) (s0_2 : Bool) : Option (ByteArray × Int × Bool) :=
 (spec_l10Read.f k s0_0 s0_1 s0_2).bind fun r => if 0 ≤ r.1 ∧ r.1 ≤ 1099511627776 ∧ 0 ≤ r.2.1 ∧ r.2.1 ≤ (s0_0.length : Int) ∧ s0_0.length ≤ 1099511627776 then
  (if r.2.2 = true then some (⟨#[]⟩, r.2.1, true) else if (s0_0.length : Int) - r.2.1 < r.1 then some (⟨#[]⟩, r.2.1, true) else some (strOfNums ((s0_0.take (r.2.1 + r.1).toNat).drop r.2.1.toNat), r.2.1 + r.1, false)) else none
theorem spec_UnpackTree.sub (a b : Int) (h0 : 0 ≤ b) (h1 : b ≤ a) (h2 : a ≤ 1099511627776) : wrap64 (a - b) = a - b := by unfold wrap64; omega
theorem spec_UnpackTree.add (a b : Int) (h0 : 0 ≤ b) (h1 : 0 ≤ a) (h2 : a ≤ 1099511627776) (h3 : b ≤ 1099511627776) : wrap64 (a + b) = a + b := by unfold wrap64; omega
set_option maxHeartbeats 4000000 in
theorem spec_UnpackTree.text (A0 : Option Addr) (c0 : Nat) (k : Nat) (g : Nat) (s0_0 : List Int) (s0_1 : Int) (s0_2 : Bool) (r1 : ByteArray) (r2 : Int) (r3 : Bool) (w0 w : World) (hcap : s0_0.length ≤ c0) (hI : spec_UnpackTree.I A0 c0 w0 w g s0_0 s0_1 s0_2) (hB : Below w0.heap.size w0 w) (h : spec_UnpackTree.txt k s0_0 s0_1 s0_2 = some (r1, r2, r3)) :
 Calls Tryd.prog 34 #[.pointer (some ⟨g, 0, none⟩)] w fun e w' => e = .returned (.string r1) ∧ spec_UnpackTree.I A0 c0 w0 w' g s0_0 r2 r3 ∧ Below w0.heap.size w0 w' ∧ KeepBut w w' g none := by
 unfold spec_UnpackTree.txt at h
 obtain ⟨⟨n, i, bad⟩, hr, h⟩ := Option.bind_eq_some_iff.mp h
 simp only [] at h
 by_cases hc : 0 ≤ n ∧ n ≤ 1099511627776 ∧ 0 ≤ i ∧ i ≤ (s0_0.length : Int) ∧ s0_0.length ≤ 1099511627776
 case neg => rw [if_neg hc] at h; cases h
 rw [if_pos hc] at h
 obtain ⟨q1, q2, q3, q4, q5⟩ := hc
 have HI := Aside0.mk hI
 have HB := Aside0.mk hB
 have HR := Aside0.mk hr
 have hsub := spec_UnpackTree.sub (s0_0.length : Int) i q3 q4 (by omega)
 have hadd := spec_UnpackTree.add i n q1 q3 (by omega) q2
 clear hI hB hr
 cases bad with
 | true =>
  rw [if_pos rfl] at h
  obtain ⟨rfl, rfl, rfl⟩ : _ = r1 ∧ i = r2 ∧ true = r3 := by simpa using h
  clear h
  go_enter Tryd.func34, Tryd.ntmps34
  go_wp2_with (go_at_call 33; refine (spec_UnpackTree.read_ A0 c0 k g s0_0 s0_1 s0_2 n i true w0 _ HI.out HB.out HR.out).mono ?_; rintro e W ⟨rfl, hI1, hB1, hK1⟩; have hbk := hI1.blk.1; have hx_0 := cellS58_0 hbk; have hx_1 := cellS58_1 hbk; have hx_2 := cellS58_2 hbk; have hf_2 := blk_frozen hbk 2; have HX1 := Aside0.mk (And.intro hI1 (And.intro hB1 hK1)); clear hbk hI1 hB1 hK1)
  go_quiet (fail)
  go_wp2
  go_ret
  refine ⟨rfl, spec_UnpackTree.I.drewN HX1.out.1 _ |>.set_2 true, below_set (pw_below_drewN HX1.out.2.1 _) HX1.out.1.ge, KeepBut.set_ (keep_drewN HX1.out.2.2 _) _ _⟩
 | false =>
  rw [if_neg (by decide)] at h
  by_cases hlt : (s0_0.length : Int) - i < n
  {
  rw [if_pos hlt] at h
  obtain ⟨rfl, rfl, rfl⟩ : _ = r1 ∧ i = r2 ∧ true = r3 := by simpa using h
  have c1 : decide ((s0_0.length : Int) - i < n) = true := decide_eq_true hlt
  clear h hlt
  go_enter Tryd.func34, Tryd.ntmps34
  go_wp2_with (go_at_call 33; refine (spec_UnpackTree.read_ A0 c0 k g s0_0 s0_1 s0_2 n i false w0 _ HI.out HB.out HR.out).mono ?_; rintro e W ⟨rfl, hI1, hB1, hK1⟩; have hbk := hI1.blk.1; have hx_0 := cellS58_0 hbk; have hx_1 := cellS58_1 hbk; have hx_2 := cellS58_2 hbk; have hf_2 := blk_frozen hbk 2; have HX1 := Aside0.mk (And.intro hI1 (And.intro hB1 hK1)); clear hbk hI1 hB1 hK1)
  go_quiet (fail)
  go_wp2
  go_ret
  refine ⟨rfl, spec_UnpackTree.I.drewN HX1.out.1 _ |>.set_2 true, below_set (pw_below_drewN HX1.out.2.1 _) HX1.out.1.ge, KeepBut.set_ (keep_drewN HX1.out.2.2 _) _ _⟩}
  {
  rw [if_neg hlt] at h
  obtain ⟨rfl, rfl, rfl⟩ : _ = r1 ∧ i + n = r2 ∧ false = r3 := by simpa using h
  have c1 : decide ((s0_0.length : Int) - i < n) = false := decide_eq_false hlt
  have hwi : wrap64 i = i := by unfold wrap64; omega
  clear h
  obtain ⟨i0, hi0, _, hsz, _⟩ := info_parts info5
  obtain ⟨A1, hcut, hA, hC⟩ := print_mid_of (P := Tryd.prog) (Value.int .u8) (0 : Int) 22 5 .i64 .i64 Tryd.underlying22 hi0 hsz A0 c0 s0_0 i (i + n) q3 (by omega) (by omega) hcap
  have HCC := Aside0.mk (Kd.C_of_reads (h1 := fun _ => rfl) (hA _ (Kd.reads_of_C HI.out.blk.2)))
  clear hA hC
  go_enter Tryd.func34, Tryd.ntmps34
  go_wp2_with (go_at_call 33; refine (spec_UnpackTree.read_ A0 c0 k g s0_0 s0_1 s0_2 n i false w0 _ HI.out HB.out HR.out).mono ?_; rintro e W ⟨rfl, hI1, hB1, hK1⟩; have hbk := hI1.blk.1; have hx_0 := cellS58_0 hbk; have hx_1 := cellS58_1 hbk; have hx_2 := cellS58_2 hbk; have hf_1 := blk_frozen hbk 1; have HX1 := Aside0.mk (And.intro hI1 (And.intro hB1 hK1)); clear hbk hI1 hB1 hK1)
  go_quiet (fail)
  go_wp2
  have HX2 := Aside0.mk (And.intro ((spec_UnpackTree.I.drewN HX1.out.1 nq).set_1 (i + n)) (And.intro (below_set (v := .int .i64 (i + n)) (j := 1) (pw_below_drewN HX1.out.2.1 nq) HX1.out.1.ge) (KeepBut.set_ (keep_drewN HX1.out.2.2 nq) 1 (.int .i64 (i + n)))))
  clear HX1 hx_0 hx_1 hx_2 hf_1
  generalize (W.drewN nq).setCell ⟨g, 1, none⟩ (.int .i64 (i + n)) = W2 at HX2 ⊢
  have hx_0 := cellS58_0 HX2.out.1.blk.1
  have hx_1 := cellS58_1 HX2.out.1.blk.1
  refine start_ (n := 17) (S := fun w' => w'.cell? ⟨g, 0, none⟩ = some (.slice A0 s0_0.length c0) ∧ w'.cell? ⟨g, 1, none⟩ = some (.int .i64 (i + n))) (ds := []) (bs_ 17 0) (by kernel_rfl) rfl (by kernel_rfl) ⟨(hx_0 : W2.drew.cell? ⟨g, 0, none⟩ = _), (hx_1 : W2.drew.cell? ⟨g, 1, none⟩ = _)⟩ (fun hHeld => ?_)
  refine pure_ (i := 0) (N := some 36) (v := ?_) (a' := ?_) #[true, false, false, false, false, false, false, false, false, false, false, false, false, false, false, false, false] rfl rfl (by kernel_rfl) (fun _ _ _ h => h) (Or.inl ⟨by rfl, ?_⟩) ?_ ?_
  rotate_left
  {
  intro w'
  go_simp
  with_reducible rfl}
  rotate_left
  {
  simp only [Act.put, List.setIfInBounds_toArray, List.set_cons_zero, List.set_cons_succ, i64_w, i32_w]
  rfl}
  refine pure_ (i := 1) (N := some 37) (v := ?_) (a' := ?_) #[true, true, false, false, false, false, false, false, false, false, false, false, false, false, false, false, false] rfl rfl (by kernel_rfl) (fun _ _ _ h => h) (Or.inl ⟨by rfl, ?_⟩) ?_ ?_
  rotate_left
  {
  intro w'
  go_simp
  with_reducible rfl}
  rotate_left
  {
  simp only [Act.put, List.setIfInBounds_toArray, List.set_cons_zero, List.set_cons_succ, i64_w, i32_w]
  rfl}
  refine pure_ (i := 2) (N := some 38) (v := ?_) (a' := ?_) #[true, true, true, false, false, false, false, false, false, false, false, false, false, false, false, false, false] rfl rfl (by kernel_rfl) (fun _ _ _ h => h) (Or.inl ⟨by rfl, ?_⟩) ?_ ?_
  rotate_left
  {
  intro w'
  go_simp
  with_reducible rfl}
  rotate_left
  {
  simp only [Act.put, List.setIfInBounds_toArray, List.set_cons_zero, List.set_cons_succ, i64_w, i32_w]
  rfl}
  refine pure_ (i := 4) (N := some 40) (v := ?_) (a' := ?_) #[true, true, true, false, true, false, false, false, false, false, false, false, false, false, false, false, false] rfl rfl (by kernel_rfl) (fun _ _ _ h => h) (Or.inl ⟨by rfl, ?_⟩) ?_ ?_
  rotate_left
  {
  intro w'
  go_simp
  with_reducible rfl}
  rotate_left
  {
  simp only [Act.put, List.setIfInBounds_toArray, List.set_cons_zero, List.set_cons_succ, i64_w, i32_w]
  rfl}
  refine pure_ (i := 5) (N := some 41) (v := ?_) (a' := ?_) #[true, true, true, false, true, true, false, false, false, false, false, false, false, false, false, false, false] rfl rfl (by kernel_rfl) (fun _ _ _ h => h) (Or.inl ⟨by rfl, ?_⟩) ?_ ?_
  rotate_left
  {
  intro w'
  go_simp
  with_reducible rfl}
  rotate_left
  {
  simp only [Act.put, List.setIfInBounds_toArray, List.set_cons_zero, List.set_cons_succ, i64_w, i32_w]
  rfl}
  refine pure_ (i := 6) (N := some 42) (v := ?_) (a' := ?_) #[true, true, true, false, true, true, true, false, false, false, false, false, false, false, false, false, false] rfl rfl (by kernel_rfl) (fun _ _ _ h => h) (Or.inl ⟨by rfl, ?_⟩) ?_ ?_
  rotate_left
  {
  intro w'
  go_simp
  with_reducible rfl}
  rotate_left
  {
  simp only [Act.put, List.setIfInBounds_toArray, List.set_cons_zero, List.set_cons_succ, i64_w, i32_w]
  rfl}
  refine pure_ (i := 8) (N := some 44) (v := ?_) (a' := ?_) #[true, true, true, false, true, true, true, false, true, false, false, false, false, false, false, false, false] rfl rfl (by kernel_rfl) (fun _ _ _ h => h) (Or.inl ⟨by rfl, ?_⟩) ?_ ?_
  rotate_left
  {
  intro w'
  go_simp
  with_reducible rfl}
  rotate_left
  {
  simp only [Act.put, List.setIfInBounds_toArray, List.set_cons_zero, List.set_cons_succ, i64_w, i32_w]
  rfl}
  refine pure_ (i := 10) (N := some 46) (v := ?_) (a' := ?_) #[true, true, true, false, true, true, true, false, true, false, true, false, false, false, false, false, false] rfl rfl (by kernel_rfl) (fun _ _ _ h => h) (Or.inl ⟨by rfl, ?_⟩) ?_ ?_
  rotate_left
  {
  intro w'
  go_simp
  with_reducible rfl}
  rotate_left
  {
  simp only [Act.put, List.setIfInBounds_toArray, List.set_cons_zero, List.set_cons_succ, i64_w, i32_w]
  rfl}
  refine pure_ (i := 11) (N := some 47) (v := ?_) (a' := ?_) #[true, true, true, false, true, true, true, false, true, false, true, true, false, false, false, false, false] rfl rfl (by kernel_rfl) (fun _ _ _ h => h) (Or.inl ⟨by rfl, ?_⟩) ?_ ?_
  rotate_left
  {
  intro w'
  go_simp
  with_reducible rfl}
  rotate_left
  {
  simp only [Act.put, List.setIfInBounds_toArray, List.set_cons_zero, List.set_cons_succ, i64_w, i32_w]
  rfl}
  refine pure_ (i := 12) (N := some 48) (v := ?_) (a' := ?_) #[true, true, true, false, true, true, true, false, true, false, true, true, true, false, false, false, false] rfl rfl (by kernel_rfl) (fun _ _ _ h => h) (Or.inl ⟨by rfl, ?_⟩) ?_ ?_
  rotate_left
  {
  intro w'
  go_simp
  with_reducible rfl}
  rotate_left
  {
  simp only [Act.put, List.setIfInBounds_toArray, List.set_cons_zero, List.set_cons_succ, i64_w, i32_w]
  rfl}
  refine take_ (i := 3) (N := some 39) (v := ?_) (a' := ?_) #[true, true, true, true, true, true, true, false, true, false, true, true, true, false, false, false, false] rfl rfl (by kernel_rfl) (fun _ _ _ h => h) (Or.inl ⟨by rfl, ?_⟩) hHeld ?_ ?_
  rotate_left
  {
  rintro w' ⟨s0, s1⟩
  go_simp
  with_reducible rfl}
  rotate_left
  {
  simp only [Act.put, List.setIfInBounds_toArray, List.set_cons_zero, List.set_cons_succ, i64_w, i32_w]
  rfl}
  refine take_ (i := 7) (N := some 43) (v := ?_) (a' := ?_) #[true, true, true, true, true, true, true, true, true, false, true, true, true, false, false, false, false] rfl rfl (by kernel_rfl) (fun _ _ _ h => h) (Or.inl ⟨by rfl, ?_⟩) hHeld ?_ ?_
  rotate_left
  {
  rintro w' ⟨s0, s1⟩
  go_simp
  with_reducible rfl}
  rotate_left
  {
  simp only [Act.put, List.setIfInBounds_toArray, List.set_cons_zero, List.set_cons_succ, i64_w, i32_w]
  rfl}
  refine pure_ (i := 9) (N := some 45) (v := ?_) (a' := ?_) #[true, true, true, true, true, true, true, true, true, true, true, true, true, false, false, false, false] rfl rfl (by kernel_rfl) (fun _ _ _ h => h) (Or.inl ⟨by rfl, ?_⟩) ?_ ?_
  rotate_left
  {
  intro w'
  go_simp
  with_reducible rfl}
  rotate_left
  {
  simp only [Act.put, List.setIfInBounds_toArray, List.set_cons_zero, List.set_cons_succ, i64_w, i32_w]
  rfl}
  refine take_ (i := 13) (N := some 49) (v := ?_) (a' := ?_) #[true, true, true, true, true, true, true, true, true, true, true, true, true, true, false, false, false] rfl rfl (by kernel_rfl) (fun _ _ _ h => h) (Or.inl ⟨by rfl, ?_⟩) hHeld ?_ ?_
  rotate_left
  {
  rintro w' ⟨s0, s1⟩
  go_simp
  with_reducible rfl}
  rotate_left
  {
  simp only [Act.put, List.setIfInBounds_toArray, List.set_cons_zero, List.set_cons_succ, i64_w, i32_w]
  rfl}
  refine pure_ (i := 14) (N := some 50) (v := ?_) (a' := ?_) #[true, true, true, true, true, true, true, true, true, true, true, true, true, true, true, false, false] rfl rfl (by kernel_rfl) (fun _ _ _ h => h) (Or.inl ⟨by rfl, ?_⟩) ?_ ?_
  rotate_left
  {
  intro w'
  go_simp
  with_reducible rfl}
  rotate_left
  {
  simp only [Act.put, List.setIfInBounds_toArray, List.set_cons_zero, List.set_cons_succ, i64_w, i32_w]
  rfl}
  refine one_ (i := 15) (N := some 51) #[true, true, true, true, true, true, true, true, true, true, true, true, true, true, true, true, false] rfl rfl (by kernel_rfl) (by decide) (fun K hK => ?_)
  have hcv6 := Kd.C_string (P := Tryd.prog) (c := c0 - i.toNat) Tryd.underlying22 Tryd.underlying5 Tryd.underlying9 (Kd.C_below HCC.out (below_drew1 HX2.out.2.1))
  simp only [List.length_drop, List.length_take] at hcv6
  refine value_ (w1 := ?_) (v := ?_) (by rfl) rfl ?_ ?_
  rotate_left 2
  {
  go_simp
  constructor
  {
  rfl}
  {
  rfl}}
  clear hcv6
  refine hK.out _ _ ⟨hHeld.1, hHeld.2⟩ (fun hHeld => ?_)
  clear hK K
  refine nS_ 51 ?_
  refine pure_ (i := 16) (N := some 2) (v := ?_) (a' := ?_) #[true, true, true, true, true, true, true, true, true, true, true, true, true, true, true, true, true] rfl rfl (by kernel_rfl) (fun _ _ _ h => h) (Or.inl ⟨by rfl, ?_⟩) ?_ ?_
  rotate_left
  {
  intro w'
  go_simp
  with_reducible rfl}
  rotate_left
  {
  simp only [Act.put, List.setIfInBounds_toArray, List.set_cons_zero, List.set_cons_succ, i64_w, i32_w]
  rfl}
  refine done_ (by kernel_rfl) ?_
  go_wp2
  go_ret
  exact ⟨rfl, spec_UnpackTree.I.drew HX2.out.1, below_drew1 HX2.out.2.1, keep_drew HX2.out.2.2⟩}
structure spec_UnpackTree.St (w W : World) (A0 : Option Addr) (c0 g gb : Nat) (l : List Int) (i : Int) (b : Bool) (v1 v : Value) (t : List S29) (cs : Array Value) : Prop where
 I : spec_UnpackTree.I A0 c0 w W g l i b
 V : Kd.R k29 29 W w.heap.size (fun q => q = w.heap.size) v1 []
 R : Kd.R k29 29 W w.heap.size (fun q => (q ≠ g ∧ q ≠ w.heap.size) ∧ q ≠ gb) v t
 B : Below w.heap.size w W
 K : W.heap[gb]? = some (.cells cs 29 (0, 0))
 NE : w.heap.size < g ∧ g ≠ gb ∧ w.heap.size < gb
theorem spec_UnpackTree.St.put {w W : World} {A0 : Option Addr} {c0 g gb : Nat} {l : List Int} {i : Int} {b : Bool} {v1 v : Value} {t : List S29} {cs : Array Value} (h : spec_UnpackTree.St w W A0 c0 g gb l i b v1 v t cs) (j : Nat) (u : Value) (cs' : Array Value) (e : cs.setIfInBounds j u = cs') :
 spec_UnpackTree.St w (W.setCell ⟨gb, j, none⟩ u) A0 c0 g gb l i b v1 v t cs' :=
 ⟨h.I.far h.NE.2.1 u, Kd.R_far h.V (fun k hk => by have := h.NE.2.2; show k ≠ gb; omega) u, Kd.R_far h.R (fun _ hk => hk.2) u, below_set h.B (by have := h.NE.2.2; omega), blk_put h.K j u e, h.NE⟩
theorem spec_UnpackTree.St.call {w W W' : World} {A0 : Option Addr} {c0 g gb : Nat} {l : List Int} {i i' : Int} {b b' : Bool} {v1 v : Value} {t : List S29} {cs : Array Value} (h : spec_UnpackTree.St w W A0 c0 g gb l i b v1 v t cs) (hk : KeepBut W W' g none) (hI : spec_UnpackTree.I A0 c0 w W' g l i' b') (hB : Below w.heap.size w W') :
 spec_UnpackTree.St w W' A0 c0 g gb l i' b' v1 v t cs :=
 ⟨hI, Kd.R_keep h.V hk (fun k e => by have := h.NE.1; omega), Kd.R_keep h.R hk (fun _ e => e.1.1), hB, (hk.2 gb (blk_lt h.K) (fun e => h.NE.2.1 e.symm) (by simp)).trans h.K, h.NE⟩
theorem spec_UnpackTree.St.cells {w W : World} {A0 : Option Addr} {c0 g gb : Nat} {l : List Int} {i : Int} {b : Bool} {v1 v : Value} {t : List S29} {x0 x1 x2 x3 : Value} (h : spec_UnpackTree.St w W A0 c0 g gb l i b v1 v t #[x0, x1, x2, x3]) :
 W.cell? ⟨gb, 0, none⟩ = some x0 ∧ W.cell? ⟨gb, 1, none⟩ = some x1 ∧ W.cell? ⟨gb, 2, none⟩ = some x2 ∧ W.cell? ⟨gb, 3, none⟩ = some x3 :=
 ⟨(blk_cell h.K 0).trans rfl, (blk_cell h.K 1).trans rfl, (blk_cell h.K 2).trans rfl, (blk_cell h.K 3).trans rfl⟩
structure spec_UnpackTree.Lt (w W : World) (A0 : Option Addr) (c0 g : Nat) (l : List Int) (i : Int) (b : Bool) (v1 v : Value) (t : List S29) : Prop where
 I : spec_UnpackTree.I A0 c0 w W g l i b
 V : Kd.R k29 29 W w.heap.size (fun q => q = w.heap.size) v1 []
 R : Kd.R k29 29 W w.heap.size (fun q => q ≠ g ∧ q ≠ w.heap.size) v t
 B : Below w.heap.size w W
 NE : w.heap.size < g
theorem spec_UnpackTree.Lt.below {w W W' : World} {A0 : Option Addr} {c0 g : Nat} {l : List Int} {i : Int} {b : Bool} {v1 v : Value} {t : List S29} (h : spec_UnpackTree.Lt w W A0 c0 g l i b v1 v t) (hb : Below W.heap.size W W') : spec_UnpackTree.Lt w W' A0 c0 g l i b v1 v t :=
 ⟨h.I.below hb, Kd.R_below h.V hb, Kd.R_below h.R hb, below_step h.B hb, h.NE⟩
theorem spec_UnpackTree.Lt.start {w W w1 : World} {A0 : Option Addr} {c0 g gb : Nat} {l : List Int} {i x : Int} {b : Bool} {v1 v : Value} {t : List S29} (h : spec_UnpackTree.Lt w W A0 c0 g l i b v1 v t) (hg : gb = (W.setCell ⟨g, 1, none⟩ (.int .i64 x)).heap.size) (hbox : w1.heap[gb]? = some (.cells #[.string (⟨#[]⟩ : ByteArray), .int .i64 0, .string (⟨#[]⟩ : ByteArray), .bool false] 29 (0, 0)))
 (hb : Below (W.setCell ⟨g, 1, none⟩ (.int .i64 x)).heap.size (W.setCell ⟨g, 1, none⟩ (.int .i64 x)) w1) : spec_UnpackTree.St w w1 A0 c0 g gb l x b v1 v t #[.string (⟨#[]⟩ : ByteArray), .int .i64 0, .string (⟨#[]⟩ : ByteArray), .bool false] := by
 have hI2 := h.I.set_1 x
 have hlt := hI2.lt
 have hne := h.NE
 have hB2 : Below w.heap.size w (W.setCell ⟨g, 1, none⟩ (.int .i64 x)) := below_set h.B (by omega)
 exact ⟨hI2.below hb, Kd.R_below (Kd.R_far h.V (fun k e => by show k ≠ g; omega) _) hb, Kd.R_below (Kd.R_elderB (Kd.R_far h.R (fun _ hk => hk.1) _) gb (by omega)) hb, below_step hB2 hb, hbox, ⟨hne, by omega, by omega⟩⟩
theorem spec_UnpackTree.St.more {w W W' : World} {A0 : Option Addr} {c0 g gb : Nat} {l : List Int} {i : Int} {b : Bool} {v1 v v' : Value} {t t' : List S29} {cs : Array Value} (h : spec_UnpackTree.St w W A0 c0 g gb l i b v1 v t cs) (hR : Kd.R k29 29 W' w.heap.size (fun q => (q ≠ g ∧ q ≠ w.heap.size) ∧ q ≠ gb) v' t') (hB : Below w.heap.size w W') (hg : W.grownBy W' v.ownBlock) :
 spec_UnpackTree.Lt w W' A0 c0 g l i b v1 v' t' :=
 ⟨h.I.grown hg (Kd.R_away h.R (fun _ hk => hk.1.1)), Kd.R_grown h.V hg (fun k e => by rw [e]; exact Kd.R_away h.R (fun _ hk => hk.1.2)), Kd.R_mono hR (fun _ hk => hk.1), hB, h.NE.1⟩
theorem spec_UnpackTree.St.fresh {w W : World} {A0 : Option Addr} {c0 g gb : Nat} {l : List Int} {i : Int} {b : Bool} {v1 v : Value} {t : List S29} {cs : Array Value} (h : spec_UnpackTree.St w W A0 c0 g gb l i b v1 v t cs) : ∀ k, W.heap.size ≤ k → (k ≠ g ∧ k ≠ w.heap.size) ∧ k ≠ gb := fun k hk => by
 have h1 := h.I.lt
 have h2 := h.NE
 have h5 := blk_lt h.K
 omega
def spec_UnpackTree.unp : Nat → Nat → List Int → Int → Bool → List S29 → Nat → Option (Option (List S29 × Bool))
 | 0, _, _, _, _, _, _ => none
 | q + 1, k, l, i, b, t, n => if 0 < n then (if b = true then some (some (t, b)) else if (l.length : Int) ≤ i then some none else if 0 ≤ i ∧ 0 ≤ rd l i ∧ rd l i < 256 then
  (spec_UnpackTree.txt k l (i + 1) b).bind fun p => (spec_UnpackTree.txt k l p.2.1 p.2.2).bind fun d => spec_UnpackTree.unp q k l d.2.1 d.2.2 (t ++ [(⟨p.1, rd l i % 16, d.1, (rd l i / 16 == 1)⟩ : S29)]) (n - 1) else none) else some (some (t, b))
def spec_UnpackTree.fin (k : Nat) (l0 : List Int) (o : Option (List S29 × Bool)) : Option (List S29 × Bool) := match o with
 | none => some ([], false)
 | some q => if q.2 = true then some ([], false) else (spec_TreeOk.f k q.1).bind fun ok => if ok = true then (spec_PackTree.f k q.1).bind fun b => (spec_l10Same.f b l0).bind fun sm => if sm = true then some (q.1, true) else some ([], false) else some ([], false)
def spec_UnpackTree.f (k : Nat) (l0 : List Int) : Option (List S29 × Bool) := if l0.length ≤ 1099511627776 then (if l0.length < 4 then some ([], false) else if (strOfNums (l0.take 4)).toList = [76, 65, 82, 49] then
 (spec_l10Read.f k l0 4 false).bind fun r => if 500 < r.1 then some ([], false) else if 0 ≤ r.1 then (spec_UnpackTree.unp 501 k l0 r.2.1 r.2.2 [] r.1.toNat).bind fun o => spec_UnpackTree.fin k l0 o else none
 else some ([], false)) else none
theorem spec_UnpackTree.w1 (i : Int) (h0 : 0 ≤ i) (h : i ≤ 1099511627776) : wrap64 (i + 1) = i + 1 := by unfold wrap64; omega
theorem spec_UnpackTree.wm (n : Nat) (h : n ≤ 500) (h1 : 1 ≤ n) : wrap64 ((n : Int) - 1) = ((n - 1 : Nat) : Int) := by unfold wrap64; omega
theorem spec_UnpackTree.by16 (x : Int) (h0 : 0 ≤ x) (h : x < 256) : wrap64 x = x ∧ Int.tmod x 16 = x % 16 ∧ Int.tdiv x 16 = x / 16 ∧ wrap64 (x % 16) = x % 16 ∧ wrap64 (x / 16) = x / 16 := by
 refine ⟨by unfold wrap64; omega, Int.tmod_eq_emod_of_nonneg h0, Int.tdiv_eq_ediv_of_nonneg h0, by unfold wrap64; omega, by unfold wrap64; omega⟩
set_option maxHeartbeats 4000000 in
theorem spec_UnpackTree.calls (k : Nat) (A0 : Option Addr) (c0 : Nat) (l0 : List Int) (r1 : List S29) (r2 : Bool) (w : World) (hr0 : Kd.C (Kd.int .u8) w A0 l0.length l0) (hc0 : l0.length ≤ c0) (h : spec_UnpackTree.f k l0 = some (r1, r2)) :
 Calls Tryd.prog 14 #[.slice A0 l0.length c0] w fun e w' => ∃ v0_ : Value, e = .returned (.tuple #[v0_, .bool r2]) ∧ Kd.R k29 29 w' w.heap.size (fun _ => True) v0_ r1 ∧ Below w.heap.size w w' := by
 unfold spec_UnpackTree.f at h
 by_cases hsz : l0.length ≤ 1099511627776
 case neg => rw [if_neg hsz] at h; cases h
 rw [if_pos hsz] at h
 have HR0 := Aside0.mk hr0
 clear hr0
 by_cases h4 : l0.length < 4
 {
 rw [if_pos h4] at h
 obtain ⟨rfl, rfl⟩ : ([] : List S29) = r1 ∧ false = r2 := by simpa using h
 have c1 : decide ((l0.length : Int) < 4) = true := decide_eq_true (by omega)
 clear h
 go_enter Tryd.func14, Tryd.ntmps14
 go_wp2_with (first | ((with_reducible refine gate_dst (N := 10) rfl ?_); refine Kd.R_lit k29 _ 29 ?hg (N := 10) ?hd (xs := ([] : List S29)) (inner := []) (ok := fun q => q = w.heap.size) (okp := fun q => q = w.heap.size) ?hr ?hp (fun _ hk => hk) rfl (Below.refl _ _) (Nat.le_refl _) (by simp) ?_; (case hd => rfl); (case hg => rfl); (case hr => first | (go_simp; done) | (go_simp; rfl)); (case hp => exact (Reps.none _ _)); intro v1 w1 ho hb hg_ hnew_; obtain ⟨b_, eb_, hb_⟩ := hnew_; have hx_ := (Kd.R_bound ho).1 b_ eb_; have HV := Aside0.mk ho; have HB := Aside0.mk hb; have HLT := Aside0.mk (show w.heap.size < w1.heap.size from by have h1_ := hx_.1; have h2_ := hx_.2.2.1; omega); clear ho hb hg_ hx_ hb_ eb_))
 exact bodyPost_ret (v := .tuple #[v1, .bool false]) (by simp [results, Tryd.results14, go_sem]) rfl ⟨_, rfl, Kd.R_mono HV.out (fun _ _ => trivial), HB.out⟩}
 {
 rw [if_neg h4] at h
 have c1 : decide ((l0.length : Int) < 4) = false := decide_eq_false (by omega)
 obtain ⟨i0, hi0, _, hsz1, _⟩ := info_parts info5
 obtain ⟨hcut, hA, hC⟩ := print_take_of (P := Tryd.prog) (Value.int .u8) (0 : Int) 22 5 .i64 Tryd.underlying22 hi0 hsz1 A0 c0 l0 4 (by omega) (by omega) hc0
 have HCC := Aside0.mk (Kd.C_of_reads (h1 := fun _ => rfl) (hA _ (Kd.reads_of_C HR0.out)))
 clear hA hC
 by_cases hq : (strOfNums (l0.take 4)).toList = [76, 65, 82, 49]
 case neg =>
  rw [if_neg hq] at h
  obtain ⟨rfl, rfl⟩ : ([] : List S29) = r1 ∧ false = r2 := by simpa using h
  have hq1 : ((strOfNums (l0.take 4)).toList == [76, 65, 82, 49]) = false := by simpa using hq
  have hq2 : ((strOfNums (l0.take 4)).toList != [76, 65, 82, 49]) = true := by simpa using hq
  clear h
  go_enter Tryd.func14, Tryd.ntmps14
  go_wp2_with (first | ((with_reducible refine gate_dst (N := 10) rfl ?_); refine Kd.R_lit k29 _ 29 ?hg (N := 10) ?hd (xs := ([] : List S29)) (inner := []) (ok := fun q => q = w.heap.size) (okp := fun q => q = w.heap.size) ?hr ?hp (fun _ hk => hk) rfl (Below.refl _ _) (Nat.le_refl _) (by simp) ?_; (case hd => rfl); (case hg => rfl); (case hr => first | (go_simp; done) | (go_simp; rfl)); (case hp => exact (Reps.none _ _)); intro v1 w1 ho hb hg_ hnew_; obtain ⟨b_, eb_, hb_⟩ := hnew_; have hx_ := (Kd.R_bound ho).1 b_ eb_; have HV := Aside0.mk ho; have HB := Aside0.mk hb; have HLT := Aside0.mk (show w.heap.size < w1.heap.size from by have h1_ := hx_.1; have h2_ := hx_.2.2.1; omega); clear ho hb hg_ hx_ hb_ eb_; have hcv := Kd.C_string (P := Tryd.prog) (c := c0) Tryd.underlying22 Tryd.underlying5 Tryd.underlying9 (Kd.C_below HCC.out HB.out); simp only [List.length_take, Int.reduceToNat] at hcv))
  exact bodyPost_ret (v := .tuple #[v1, .bool false]) (by simp [results, Tryd.results14, go_sem]) rfl ⟨_, rfl, Kd.R_mono HV.out (fun _ _ => trivial), HB.out⟩
 rw [if_pos hq] at h
 have hq1 : ((strOfNums (l0.take 4)).toList == [76, 65, 82, 49]) = true := by simpa using hq
 have hq2 : ((strOfNums (l0.take 4)).toList != [76, 65, 82, 49]) = false := by simpa using hq
 clear hq
 obtain ⟨⟨n0, i1, b1⟩, hn0, h⟩ := Option.bind_eq_some_iff.mp h
 simp only [] at h
 have H0 := Aside0.mk hn0
 clear hn0
 go_enter Tryd.func14, Tryd.ntmps14
 go_upto_region 6 with (first | ((with_reducible refine gate_dst (N := 10) rfl ?_); refine Kd.R_lit k29 _ 29 ?hg (N := 10) ?hd (xs := ([] : List S29)) (inner := []) (ok := fun q => q = w.heap.size) (okp := fun q => q = w.heap.size) ?hr ?hp (fun _ hk => hk) rfl (Below.refl _ _) (Nat.le_refl _) (by simp) ?_; (case hd => rfl); (case hg => rfl); (case hr => first | (go_simp; done) | (go_simp; rfl)); (case hp => exact (Reps.none _ _)); intro v1 w1 ho hb hg_ hnew_; obtain ⟨b_, eb_, hb_⟩ := hnew_; have hx_ := (Kd.R_bound ho).1 b_ eb_; have HV := Aside0.mk ho; have HB := Aside0.mk hb; have HLT := Aside0.mk (show w.heap.size < w1.heap.size from by have h1_ := hx_.1; have h2_ := hx_.2.2.1; omega); clear ho hb hg_ hx_ hb_ eb_; have hcv := Kd.C_string (P := Tryd.prog) (c := c0) Tryd.underlying22 Tryd.underlying5 Tryd.underlying9 (Kd.C_below HCC.out HB.out); simp only [List.length_take, Int.reduceToNat] at hcv) | ((with_reducible refine gate_dst (N := 23) rfl ?_); refine bE_ 23 #[.slice A0 l0.length c0, .int .i64 4, .bool false] 58 ?_; intro g hg w2 hbox hb; have HI := Aside0.mk (show spec_UnpackTree.I A0 c0 w w2 g l0 4 false from ⟨A0, c0, hbox, ⟨by have := below_size HB.out; omega, rfl, rfl⟩, HR0.out⟩); have HB2 := Aside0.mk (below_step HB.out hb); have HV2 := Aside0.mk (Kd.R_below HV.out hb); have HG := Aside0.mk (show w.heap.size < g from by have := HLT.out; omega); clear HB HV hb hbox hg) | (go_at_call 33; refine (spec_UnpackTree.read_ A0 c0 k g l0 4 false n0 i1 b1 w _ HI.out HB2.out H0.out).mono ?_; rintro e W ⟨rfl, hI1, hB1, hK1⟩; have HV3 := Aside0.mk (Kd.R_keep HV2.out hK1 (fun k e => by have := HG.out; omega)); have HI3 := Aside0.mk hI1; have HB3 := Aside0.mk hB1; clear hI1 hB1 hK1 HI HB2 HV2))
 clear hcut hq1 hq2 HCC hi0 hsz1 HLT c1 hcv
 have hE : ∀ (t1 : List S29) (bb : Bool), some (t1, bb) = some (r1, r2) → t1 = r1 ∧ bb = r2 := fun t1 bb e => by simpa using e
 have HE1 := Aside0.mk hE
 clear hE
 by_cases hbig : 500 < n0
 {
 rw [if_pos hbig] at h
 obtain ⟨rfl, rfl⟩ := HE1.out _ _ h
 have c2 : decide (500 < n0) = true := decide_eq_true hbig
 clear h
 go_wp2
 exact bodyPost_ret (v := .tuple #[v1, .bool false]) (by simp [results, Tryd.results14, go_sem]) rfl ⟨_, rfl, Kd.R_mono HV3.out (fun _ _ => trivial), HB3.out⟩}
 {
 rw [if_neg hbig] at h
 have c2 : decide (500 < n0) = false := decide_eq_false hbig
 by_cases hpos : 0 ≤ n0
 case neg => rw [if_neg hpos] at h; cases h
 rw [if_pos hpos] at h
 obtain ⟨n0, rfl⟩ : ∃ n : Nat, n0 = n := ⟨n0.toNat, by omega⟩
 rw [Int.toNat_natCast] at h
 obtain ⟨o, hO, h⟩ := Option.bind_eq_some_iff.mp h
 have HO := Aside0.mk hO
 have HH := Aside0.mk h
 have hn0 : n0 ≤ 500 := by omega
 clear hO h hbig hpos
 go_wp2_with (first | ((with_reducible refine gate_dst (N := 29) rfl ?_); refine Kd.R_lit k29 _ 29 ?hg (N := 29) ?hd (xs := ([] : List S29)) (inner := []) (ok := fun _ => True) (okp := fun _ => True) ?hr ?hp (fun _ hk => hk) trivial (Below.refl _ _) (Nat.le_refl _) (by simp) ?_; (case hd => rfl); (case hg => rfl); (case hr => first | (go_simp; done) | (go_simp; rfl)); (case hp => exact (Reps.none _ _)); intro v7 w3 ho hb hg_ hnew_; have HL := Aside0.mk (show spec_UnpackTree.Lt w w3 A0 c0 g l0 i1 b1 v1 v7 [] from ⟨HI3.out.below hb, Kd.R_below HV3.out hb, Kd.R_mono (Kd.R_lower (Kd.R_bound ho) (below_size HB3.out)) (fun k hk => by have h1_ := HI3.out.lt; have h2_ := HG.out; have h3_ := hk.2.1; exact ⟨by omega, by omega⟩), below_step HB3.out hb, HG.out⟩); clear ho hb hg_ hnew_ HI3 HV3 HB3))
 go_loopw [6, 7] (fun v6 v7 W => ∃ (q : Nat) (i : Int) (n : Nat) (b : Bool) (t : List S29), v6 = .int .i64 n ∧ t.length + n ≤ 500 ∧ Aside0 (spec_UnpackTree.unp q k l0 i b t n = some o) ∧ Aside0 (spec_UnpackTree.Lt w W A0 c0 g l0 i b v1 v7 t)) (fun v6 _ _ => (intOf v6).toNat)
 case atStart => exact ⟨501, i1, n0, b1, [], rfl, by simpa using hn0, HO, HL⟩
 case round =>
  clear HL HO hn0 c2
  obtain ⟨q, i, n, b, t, rfl, hlen, HA, HL⟩ := hrel
  obtain ⟨q, rfl⟩ : ∃ q', q = q' + 1 := by
   rcases q with _ | q
   {
   have := HA.out; rw [spec_UnpackTree.unp] at this; cases this}
   {
   exact ⟨q, rfl⟩}
  have hA := HA.out
  rw [spec_UnpackTree.unp] at hA
  clear HA
  have hbk := HL.out.I.blk.1
  have hx_0 := cellS58_0 hbk
  have hx_1 := cellS58_1 hbk
  have hx_2 := cellS58_2 hbk
  have hf_1 := blk_frozen hbk 1
  clear hbk
  obtain ⟨Ar, cr, hvr, hcr, hCr⟩ := Kd.R_reads HL.out.R
  subst hvr
  clear hcr hCr
  by_cases hn : 0 < n
  {
  rw [if_pos hn] at hA
  have c1 : decide ((0 : Int) < (n : Int)) = true := decide_eq_true (by omega)
  cases b with
  | true =>
   rw [if_pos rfl] at hA
   obtain rfl := Option.some.inj hA
   obtain ⟨rfl, rfl⟩ := HE1.out [] false HH.out
   clear hA HH
   go_wp2
   exact bodyPost_ret (v := .tuple #[v1, .bool false]) (by simp [results, Tryd.results14, go_sem]) rfl ⟨_, rfl, Kd.R_mono HL.out.V (fun _ _ => trivial), HL.out.B⟩
  | false =>
   rw [if_neg (by decide)] at hA
   by_cases hend : (l0.length : Int) ≤ i
   {
   rw [if_pos hend] at hA
   obtain rfl := Option.some.inj hA
   obtain ⟨rfl, rfl⟩ := HE1.out [] false HH.out
   have c3 : decide ((l0.length : Int) ≤ i) = true := decide_eq_true hend
   clear hA HH
   go_wp2
   exact bodyPost_ret (v := .tuple #[v1, .bool false]) (by simp [results, Tryd.results14, go_sem]) rfl ⟨_, rfl, Kd.R_mono HL.out.V (fun _ _ => trivial), HL.out.B⟩}
   {
   rw [if_neg hend] at hA
   have c3 : decide ((l0.length : Int) ≤ i) = false := decide_eq_false hend
   by_cases hg : 0 ≤ i ∧ 0 ≤ rd l0 i ∧ rd l0 i < 256
   case neg => rw [if_neg hg] at hA; cases hA
   rw [if_pos hg] at hA
   obtain ⟨g1, g2, g3⟩ := hg
   obtain ⟨⟨p, i2, b2⟩, hp1, hA⟩ := Option.bind_eq_some_iff.mp hA
   obtain ⟨⟨d, i3, b3⟩, hp2, hA⟩ := Option.bind_eq_some_iff.mp hA
   have HP1 := Aside0.mk hp1
   have HP2 := Aside0.mk hp2
   have HA2 := Aside0.mk hA
   clear hp1 hp2 hA
   have hw1 := spec_UnpackTree.w1 i g1 (by omega)
   have HW := Aside0.mk (spec_UnpackTree.wm n (by omega) hn)
   have HIx := Aside0.mk (And.intro g1 (And.intro g2 (And.intro g3 hend)))
   have q1 : i < (l0.length : Int) := by omega
   obtain ⟨b16a, b16b, b16c, b16d, b16e⟩ := spec_UnpackTree.by16 (rd l0 i) g2 g3
   obtain ⟨ad, e1, hx_a⟩ := Kd.at_int HR0.out i g1 q1
   cases e1
   replace hx_a := pw_cell_below HL.out.B hx_a
   have p0 : (0 ≤ i) = True := eq_true g1
   have p1 : (i < (l0.length : Int)) = True := eq_true q1
   clear g1 q1 g2 g3 hend
   go_upto_region 16 with (first | ((with_reducible refine gate_dst (N := 9) rfl ?_); refine bE_ 9 #[.string (⟨#[]⟩ : ByteArray), .int .i64 0, .string (⟨#[]⟩ : ByteArray), .bool false] 29 ?_; intro gb hg w20 hbox hb20; have HS := Aside0.mk (spec_UnpackTree.Lt.start HL.out hg hbox hb20); clear hg hbox hb20 HL hx_0 hx_1 hx_2 hf_1 hx_a; obtain ⟨hcz20_0, hcz20_1, hcz20_2, hcz20_3⟩ := HS.out.cells; have hfz20_0 := blk_frozen HS.out.K 0; have hfz20_1 := blk_frozen HS.out.K 1; have hfz20_2 := blk_frozen HS.out.K 2; have hfz20_3 := blk_frozen HS.out.K 3))
   go_upto_region 18 with (first | (go_at_call 34; have h1_ := HP1; clear HP1; have hS_ : spec_UnpackTree.St w _ _ c0 g gb l0 (i + 1) _ v1 (.slice Ar t.length cr) t #[.string (⟨#[]⟩ : ByteArray), .int .i64 (rd l0 i % 16), .string (⟨#[]⟩ : ByteArray), .bool (rd l0 i / 16 == 1)] := (((HS.out.put 0 _ _ rfl).put 1 _ _ rfl).put 2 _ _ rfl).put 3 _ _ rfl; refine (spec_UnpackTree.text _ c0 k g l0 _ _ _ _ _ w _ hc0 hS_.I hS_.B h1_.out).mono ?_; rintro e W8 ⟨rfl, hI_, hB_, hK_⟩; have HS8 := Aside0.mk (hS_.call hK_ hI_ hB_); clear hS_ hI_ hB_ hK_ h1_ HS hcz20_0 hcz20_1 hcz20_2 hcz20_3 hfz20_0 hfz20_1 hfz20_2 hfz20_3; obtain ⟨hcz21_0, hcz21_1, hcz21_2, hcz21_3⟩ := HS8.out.cells; have hfz21_0 := blk_frozen HS8.out.K 0; have hfz21_1 := blk_frozen HS8.out.K 1; have hfz21_2 := blk_frozen HS8.out.K 2; have hfz21_3 := blk_frozen HS8.out.K 3) | (go_at_call 34; have h1_ := HP2; clear HP2; have hS_ : spec_UnpackTree.St w _ _ c0 g gb l0 i2 _ v1 (.slice Ar t.length cr) t #[.string p, .int .i64 (rd l0 i % 16), .string (⟨#[]⟩ : ByteArray), .bool (rd l0 i / 16 == 1)] := HS8.out.put 0 _ _ rfl; refine (spec_UnpackTree.text _ c0 k g l0 _ _ _ _ _ w _ hc0 hS_.I hS_.B h1_.out).mono ?_; rintro e W9 ⟨rfl, hI_, hB_, hK_⟩; have HS9 := Aside0.mk (hS_.call hK_ hI_ hB_); clear hS_ hI_ hB_ hK_ h1_ HS8 hcz21_0 hcz21_1 hcz21_2 hcz21_3 hfz21_0 hfz21_1 hfz21_2 hfz21_3; obtain ⟨hcz22_0, hcz22_1, hcz22_2, hcz22_3⟩ := HS9.out.cells; have hfz22_0 := blk_frozen HS9.out.K 0; have hfz22_1 := blk_frozen HS9.out.K 1; have hfz22_2 := blk_frozen HS9.out.K 2; have hfz22_3 := blk_frozen HS9.out.K 3))
   go_wp2_with (first | ((with_reducible refine gate_builtin (b := .append) (xs := #[.tmp 77, .tmp 79]) rfl ?_); at_builtin; refine Kd.R_append k29 (w0 := w) w.heap.size rfl (.tmp 77) (.tmp 79) 24 29 (.agg #[(.string ⟨#[]⟩), (.int .i64 0), (.string ⟨#[]⟩), (.bool false)]) 48 rfl Tryd.underlying24 info29 rfl (by decide) (by omega) (.slice Ar t.length cr) t (⟨p, rd l0 i % 16, d, (rd l0 i / 16 == 1)⟩ : S29) [.string p, .int .i64 (rd l0 i % 16), .string d, .bool (rd l0 i / 16 == 1)] (fun q => (q ≠ g ∧ q ≠ w.heap.size) ∧ q ≠ gb) (fun _ => False) rfl (by first | (go_simp; done) | (go_simp; rfl)) ?aP (fun _ hk => hk.elim) ?aF ?aO ?aB ?aS ?aL ?_; (case aP => exact k29_mkM _ _ _ (⟨p, rd l0 i % 16, d, (rd l0 i / 16 == 1)⟩ : S29)); (case aF => exact (HS9.out.put 2 _ _ rfl).fresh); (case aO => exact (HS9.out.put 2 _ _ rfl).R); (case aB => exact (HS9.out.put 2 _ _ rfl).B); (case aS => exact below_size (HS9.out.put 2 _ _ rfl).B); (case aL => omega); intro v3 w22 ho hb3 hg3 hat; have HM := Aside0.mk (spec_UnpackTree.St.more (HS9.out.put 2 _ _ rfl) ho hb3 hg3); clear ho hb3 hg3 hat HS9 hcz22_0 hcz22_1 hcz22_2 hcz22_3 hfz22_0 hfz22_1 hfz22_2 hfz22_3))
   go_roundw
   case measure => simp [intOf]; omega
   case rel => exact ⟨q, i3, n - 1, b3, t ++ [(⟨p, rd l0 i % 16, d, (rd l0 i / 16 == 1)⟩ : S29)], by first | rfl | (rw [HW.out]) | (congr 1; omega), by simp; omega, HA2, HM⟩}}
  {
  rw [if_neg hn] at hA
  obtain rfl := Option.some.inj hA
  have c1 : decide ((0 : Int) < (n : Int)) = false := decide_eq_false (by omega)
  clear hA
  cases b with
  | true =>
   obtain ⟨rfl, rfl⟩ := HE1.out [] false HH.out
   clear HH
   go_wp2
   exact bodyPost_ret (v := .tuple #[v1, .bool false]) (by simp [results, Tryd.results14, go_sem]) rfl ⟨_, rfl, Kd.R_mono HL.out.V (fun _ _ => trivial), HL.out.B⟩
  | false =>
   have hH : ((spec_TreeOk.f k t).bind fun ok => if ok = true then (spec_PackTree.f k t).bind fun b => (spec_l10Same.f b l0).bind fun sm => if sm = true then some (t, true) else some ([], false) else some ([], false)) = some (r1, r2) := HH.out
   obtain ⟨ok, hok, hH⟩ := Option.bind_eq_some_iff.mp hH
   have HT := Aside0.mk hok
   clear HH hok
   cases ok with
   | false =>
    rw [if_neg (by decide)] at hH
    obtain ⟨rfl, rfl⟩ := HE1.out _ _ hH
    clear hH
    go_wp2_with (first | (go_at_call 8; refine (spec_TreeOk.calls k Ar cr t false _ (Kd.R_reads' HL.out.R).2.2 (Kd.R_reads' HL.out.R).2.1 HT.out).mono ?_; rintro e w8 ⟨rfl, hb8⟩; replace HL := Aside0.mk (HL.out.below hb8); clear hb8 HT hx_0 hx_1 hx_2 hf_1))
    exact bodyPost_ret (v := .tuple #[v1, .bool false]) (by simp [results, Tryd.results14, go_sem]) rfl ⟨_, rfl, Kd.R_mono HL.out.V (fun _ _ => trivial), HL.out.B⟩
   | true =>
    rw [if_pos rfl] at hH
    obtain ⟨bb, hbb, hH⟩ := Option.bind_eq_some_iff.mp hH
    obtain ⟨sm, hsm, hH⟩ := Option.bind_eq_some_iff.mp hH
    have HP := Aside0.mk hbb
    have HS1 := Aside0.mk hsm
    clear hbb hsm
    cases sm with
    | false =>
     rw [if_neg (by decide)] at hH
     obtain ⟨rfl, rfl⟩ := HE1.out _ _ hH
     clear hH
     go_wp2_with (first | (go_at_call 8; refine (spec_TreeOk.calls k Ar cr t true _ (Kd.R_reads' HL.out.R).2.2 (Kd.R_reads' HL.out.R).2.1 HT.out).mono ?_; rintro e w8 ⟨rfl, hb8⟩; replace HL := Aside0.mk (HL.out.below hb8); clear hb8 HT hx_0 hx_1 hx_2 hf_1) | (go_at_call 30; refine (spec_PackTree.calls k Ar cr t bb _ (Kd.R_reads' HL.out.R).2.2 (Kd.R_reads' HL.out.R).2.1 HP.out).mono ?_; rintro e w9 ⟨v9_, rfl, hR9, hb9⟩; replace HL := Aside0.mk (HL.out.below hb9); clear hb9 HP; obtain ⟨A9, c9, hv9, hc9, hC9⟩ := Kd.R_reads hR9; subst hv9; have HC9 := Aside0.mk hC9; clear hC9 hR9) | (go_at_call 35; refine (spec_l10Same.calls A9 c9 bb _ c0 l0 false _ HC9.out hc9 (Kd.C_below HR0.out HL.out.B) hc0 HS1.out).mono ?_; rintro e w' ⟨rfl, ⟨nd, rfl⟩⟩; replace HL := Aside0.mk (HL.out.below (pw_below_drewN (Below.refl _ _) nd)); clear HC9 HS1))
     exact bodyPost_ret (v := .tuple #[v1, .bool false]) (by simp [results, Tryd.results14, go_sem]) rfl ⟨_, rfl, Kd.R_mono HL.out.V (fun _ _ => trivial), HL.out.B⟩
    | true =>
     rw [if_pos rfl] at hH
     obtain ⟨rfl, rfl⟩ := HE1.out _ _ hH
     clear hH
     go_wp2_with (first | (go_at_call 8; refine (spec_TreeOk.calls k Ar cr t true _ (Kd.R_reads' HL.out.R).2.2 (Kd.R_reads' HL.out.R).2.1 HT.out).mono ?_; rintro e w8 ⟨rfl, hb8⟩; replace HL := Aside0.mk (HL.out.below hb8); clear hb8 HT hx_0 hx_1 hx_2 hf_1) | (go_at_call 30; refine (spec_PackTree.calls k Ar cr t bb _ (Kd.R_reads' HL.out.R).2.2 (Kd.R_reads' HL.out.R).2.1 HP.out).mono ?_; rintro e w9 ⟨v9_, rfl, hR9, hb9⟩; replace HL := Aside0.mk (HL.out.below hb9); clear hb9 HP; obtain ⟨A9, c9, hv9, hc9, hC9⟩ := Kd.R_reads hR9; subst hv9; have HC9 := Aside0.mk hC9; clear hC9 hR9) | (go_at_call 35; refine (spec_l10Same.calls A9 c9 bb _ c0 l0 true _ HC9.out hc9 (Kd.C_below HR0.out HL.out.B) hc0 HS1.out).mono ?_; rintro e w' ⟨rfl, ⟨nd, rfl⟩⟩; replace HL := Aside0.mk (HL.out.below (pw_below_drewN (Below.refl _ _) nd)); clear HC9 HS1))
     exact bodyPost_ret (v := .tuple #[.slice Ar t.length cr, .bool true]) (by simp [results, Tryd.results14, go_sem]) rfl ⟨_, rfl, Kd.R_mono HL.out.R (fun _ _ => trivial), HL.out.B⟩
}}}
theorem impl_PutEntry.run_copy_k {P : Program} (w : World) (dT sT ty elem : TypeId) (b o dLen dCap : Nat) (a : Addr) (sLen sCap k m : Nat) (cs : List Value)
 (hu : P.underlying dT = some (.slice elem)) (hs : (P.info? elem).map (·.size) = some k) (hm : m = Nat.min sLen dLen) (hn : cs.length = m * k)
 (hsrc : ∀ j v, cs[j]? = some v → w.cell? (a.add j) = some v) (hc : ∀ j, j < cs.length → (w.cell? ⟨b, o + j, none⟩).isSome = true) (hf : ∀ j, j < cs.length → w.frozen? ⟨b, o + j, none⟩ = false) (h1 : ∀ v ∈ cs, v.oneCell' = true) :
 (Builtin.copy_ #[dT, sT] ty #[.slice (some ⟨b, o, none⟩) dLen dCap, .slice (some a) sLen sCap]).run P w = .ok (goInt m) (w.setCells b o cs) := by
 have hl := run_loadCells_list (P := P) w a cs hsrc
 have hst := run_storeCells_cells (P := P) b o cs 0 w (by simpa using hc) (by simpa using hf) h1
 cases hq : P.info? elem with
 | none => simp [hq] at hs
 | some i =>
  have hi : i.size = k := by simpa [hq] using hs
  rw [hn] at hl
  simp [Builtin.copy_, run_underlying hu, Builtin.lenOf, Builtin.firstCells, sizeOf, typeInfo, hq, hi, ← hm, hl, hst]
theorem impl_PutEntry.wpList_copy {P : Program} {ops : Array Oper} {rest : List Oper} {o : Oper} {a : Act} {Q : Exit → Act → World → Prop} (w : World) (hgd : o.guard = none) (d s : Operand) (t t' : TypeId)
 (ho : o.op = .call { callee := .builtin .copy, args := #[d, s], argTypes := #[t, t'] }) (v u : Value) (hd : a.eval d = v) (hs : a.eval s = u) {v' : Value} {w' : World}
 (hr : (Builtin.copy_ #[t, t'] o.type #[v, u]).run P w = .ok v' w') (h : wpList P ops Q rest (a.put o.dst v') w') : wpList P ops Q (o :: rest) a w := by
 refine wpList_plain hgd fun _ hK => ?_
 unfold Oper.wp execOp
 simp only [ho, resolve, invoke, builtin, Sem.run_bind, Sem.run_pure, Result.andThen_ok, List.map_toArray, List.map_cons, List.map_nil, hd, hs, hr]
 exact hK _ _ h
theorem impl_PutEntry.step_copy {P : Program} {ops : Array Oper} {o : Oper} {a : Act} {w : World} {K : Act → World → Prop} {Q : Exit → Act → World → Prop} {E : Prop}
 (hg : o.guard = none) (d x : Operand) (dT sT : TypeId) (hop : o.op = Op.call { callee := Callee.builtin Builtin.copy, args := #[d, x], argTypes := #[dT, sT] })
 (v u : Value) (hd : a.eval d = v) (hx : a.eval x = u) {v' : Value} {w' : World} (hr : (Builtin.copy_ #[dT, sT] o.type #[v, u]).run P w = .ok v' w') (hK : K (a.put o.dst v') w') :
 if Region.wanted o (yielded ops a.tmps) = true then Oper.wp P o a w K Q else E := by
 have hw : Region.wanted o (yielded ops a.tmps) = true := by simp [Region.wanted, hg]
 rw [if_pos hw]
 unfold Oper.wp
 simp [execOp, hop, resolve, invoke, builtin, hd, hx, hr, Result.andThen]
 exact hK
def impl_PutEntry.ec (x : S29) : List Value := [.string x.f0, .int .i64 x.f1, .string x.f2, .bool x.f3]
def impl_PutEntry.flat (xs : List S29) : List Value := xs.flatMap impl_PutEntry.ec
theorem impl_PutEntry.flat_length : ∀ xs : List S29, (impl_PutEntry.flat xs).length = xs.length * 4
 | [] => rfl
 | x :: xs => by
  have := impl_PutEntry.flat_length xs
  unfold impl_PutEntry.flat at this ⊢
  rw [List.flatMap_cons, List.length_append, this, List.length_cons]
  show 4 + _ = _
  omega
theorem impl_PutEntry.flat_append (xs ys : List S29) : impl_PutEntry.flat (xs ++ ys) = impl_PutEntry.flat xs ++ impl_PutEntry.flat ys := List.flatMap_append
theorem impl_PutEntry.flat_take (xs : List S29) (i : Nat) (hi : i ≤ xs.length) : (impl_PutEntry.flat xs).take (i * 4) = impl_PutEntry.flat (xs.take i) := by
 have h : impl_PutEntry.flat xs = impl_PutEntry.flat (xs.take i) ++ impl_PutEntry.flat (xs.drop i) := by rw [← impl_PutEntry.flat_append, List.take_append_drop]
 have hl : (impl_PutEntry.flat (xs.take i)).length = i * 4 := by rw [impl_PutEntry.flat_length, List.length_take, Nat.min_eq_left hi]
 rw [h, ← hl, List.take_left]
theorem impl_PutEntry.flat_drop (xs : List S29) (i : Nat) (hi : i ≤ xs.length) : (impl_PutEntry.flat xs).drop (i * 4) = impl_PutEntry.flat (xs.drop i) := by
 have h : impl_PutEntry.flat xs = impl_PutEntry.flat (xs.take i) ++ impl_PutEntry.flat (xs.drop i) := by rw [← impl_PutEntry.flat_append, List.take_append_drop]
 have hl : (impl_PutEntry.flat (xs.take i)).length = i * 4 := by rw [impl_PutEntry.flat_length, List.length_take, Nat.min_eq_left hi]
 rw [h, ← hl, List.drop_left]
theorem impl_PutEntry.flat_one (xs : List S29) : ∀ v ∈ impl_PutEntry.flat xs, v.oneCell' = true := by
 intro v hv
 obtain ⟨x, _, hx⟩ := List.mem_flatMap.1 hv
 simp only [impl_PutEntry.ec, List.mem_cons, List.not_mem_nil, or_false] at hx
 rcases hx with rfl | rfl | rfl | rfl <;> rfl
theorem impl_PutEntry.reps_flat {R : S29 → List Value → Prop} (hR : ∀ x c, R x c → c = impl_PutEntry.ec x) : ∀ (xs : List S29) (cs : List Value), Reps R 4 xs cs → cs = impl_PutEntry.flat xs
 | [], cs, h => by
  have := h.1
  simp at this
  rw [this]; rfl
 | x :: xs, cs, h => by
  have h0 := hR _ _ (h.2 0 x rfl)
  rw [Nat.zero_mul, List.drop_zero] at h0
  have hl := h.1
  have ht := impl_PutEntry.reps_flat hR xs (cs.drop 4) ⟨by rw [List.length_drop, hl, List.length_cons]; omega, fun j p hj => by
   have := h.2 (j + 1) p (by simpa using hj)
   rw [List.drop_drop, show 4 + j * 4 = (j + 1) * 4 by omega]
   exact this⟩
  rw [show impl_PutEntry.flat (x :: xs) = impl_PutEntry.ec x ++ impl_PutEntry.flat xs from List.flatMap_cons, ← h0, ← ht, List.take_append_drop]
theorem impl_PutEntry.flat_reps {R : S29 → List Value → Prop} (hR : ∀ x, R x (impl_PutEntry.ec x)) (xs : List S29) : Reps R 4 xs (impl_PutEntry.flat xs) := by
 refine ⟨impl_PutEntry.flat_length xs, fun j p hj => ?_⟩
 have hlt : j < xs.length := (List.getElem?_eq_some_iff.1 hj).1
 rw [impl_PutEntry.flat_drop xs j (by omega), List.drop_eq_getElem_cons hlt]
 have he : xs[j] = p := by rw [List.getElem?_eq_getElem hlt] at hj; exact Option.some.inj hj
 rw [he, show impl_PutEntry.flat (p :: xs.drop (j + 1)) = impl_PutEntry.ec p ++ impl_PutEntry.flat (xs.drop (j + 1)) from List.flatMap_cons]
 exact hR p
theorem impl_PutEntry.R_of_flat {W : World} {base : Nat} {ok : Nat → Prop} {v : Value} {xs : List S29} (hok : ∀ k, v.ownBlock = some k → ok k) (h : W.ownsRow base 29 4 v xs.length (impl_PutEntry.flat xs)) : Kd.R k29 29 W base ok v xs :=
 ⟨hok, impl_PutEntry.flat xs, h, impl_PutEntry.flat_reps (fun x => k29_mkM W base _ x) xs⟩
theorem impl_PutEntry.R_flat {W : World} {base : Nat} {ok : Nat → Prop} {v : Value} {xs : List S29} (h : Kd.R k29 29 W base ok v xs) : W.ownsRow base 29 4 v xs.length (impl_PutEntry.flat xs) := by
 obtain ⟨_, inner, ho, hr⟩ := h
 rw [← impl_PutEntry.reps_flat (fun x c hx => k29_openM hx) xs inner hr]
 exact ho
theorem impl_PutEntry.isSome_setCells (b : Nat) (vs : List Value) (o : Nat) (w : World) (h : ∀ j, j < vs.length → (w.cell? ⟨b, o + j, none⟩).isSome = true) (k : Nat) (hk : (w.cell? ⟨b, k, none⟩).isSome = true) : ((w.setCells b o vs).cell? ⟨b, k, none⟩).isSome = true := by
 by_cases hin : o ≤ k ∧ k < o + vs.length
 {
 have := World.cell?_setCells_in b vs o w h (k - o) (by omega)
 rw [show o + (k - o) = k by omega] at this
 rw [this]; rfl}
 {
 rw [World.cell?_setCells_out b vs o w ⟨b, k, none⟩ (fun _ _ => by show k < o ∨ o + vs.length ≤ k; omega)]
 exact hk}
theorem impl_PutEntry.take_ins (cs F D : List Value) (i n : Nat) (hF : F.length = 4) (hD : D = (cs.take (n * 4)).drop (i * 4)) (hi : i ≤ n) (hn : (n + 1) * 4 ≤ cs.length) :
 ((cs.take ((i + 1) * 4) ++ D ++ cs.drop ((i + 1) * 4 + D.length)).take (i * 4) ++ F ++ (cs.take ((i + 1) * 4) ++ D ++ cs.drop ((i + 1) * 4 + D.length)).drop (i * 4 + F.length)).take ((n + 1) * 4) = cs.take (i * 4) ++ F ++ D := by
 have hDl : D.length = (n - i) * 4 := by rw [hD, List.length_drop, List.length_take]; omega
 have h1 : (cs.take ((i + 1) * 4)).length = (i + 1) * 4 := by rw [List.length_take]; omega
 obtain ⟨R, hR⟩ : ∃ R, R = cs.drop ((i + 1) * 4 + D.length) := ⟨_, rfl⟩
 rw [← hR, hF, show i * 4 + 4 = (i + 1) * 4 by omega, List.append_assoc (cs.take ((i + 1) * 4))]
 have ht : (cs.take ((i + 1) * 4) ++ (D ++ R)).take (i * 4) = cs.take (i * 4) := by
  rw [List.take_append_of_le_length (by omega), List.take_take, Nat.min_eq_left (by omega)]
 have hd : (cs.take ((i + 1) * 4) ++ (D ++ R)).drop ((i + 1) * 4) = D ++ R := by
  rw [List.drop_append_of_le_length (by omega), List.drop_of_length_le (by omega), List.nil_append]
 rw [ht, hd]
 have h2 : (cs.take (i * 4) ++ F ++ D).length = (n + 1) * 4 := by rw [List.length_append, List.length_append, List.length_take]; omega
 rw [← List.append_assoc, ← h2, List.take_left]
set_option maxHeartbeats 4000000 in
/-- slices.Insert: there is room behind the row. -/
theorem impl_PutEntry.ins_room (x : S29) (xs : List S29) (i n g gv cap base : Nat) (hn : xs.length = n) (cur : Array Value) (w : World) (hi : i < n) (hroom : n + 1 ≤ cap) (hcap : cap ≤ 9223372036854775807) (hne : gv ≠ g) (hbase : base ≤ g)
 (hb : w.heap[g]? = some (.cells cur 29 (0, 0))) (hcs : cur.size = cap * 4) (hcur : cur.toList.take (n * 4) = impl_PutEntry.flat xs) (hv : w.heap[gv]? = some (.cells (impl_PutEntry.ec x).toArray 29 (0, 0))) :
 Calls Tryd.prog 40 #[.slice (some ⟨g, 0, none⟩) n cap, .int .i64 i, .slice (some ⟨gv, 0, none⟩) 1 1] w fun e w' =>
  e = .returned (.slice (some ⟨g, 0, none⟩) (n + 1) cap) ∧ Kd.R k29 29 w' base (fun _ => True) (.slice (some ⟨g, 0, none⟩) (n + 1) cap) (xs.take i ++ x :: xs.drop i) ∧ w.grownBy w' (some g) := by
 have hu := Tryd.underlying29
 have hus := Tryd.underlying24
 have hsz : (Tryd.prog.info? 29).map (·.size) = some 4 := by
  obtain ⟨i0, hi, hz⟩ := Option.map_eq_some_iff.1 info29
  simp only [Prod.mk.injEq] at hz
  rw [hi]; simp [hz.2.1]
 have hszS : ∀ w, (Go.sizeOf 29).run Tryd.prog w = .ok 4 w := fun w => by
  obtain ⟨i0, hi, hz⟩ := Option.map_eq_some_iff.1 info29
  simp only [Prod.mk.injEq] at hz
  simp [Go.sizeOf, typeInfo, hi, hz.2.1]
 have hsa : w.shape? gv = some (29, 4) := by simp [World.shape?, hv, impl_PutEntry.ec]
 have hsb : w.shape? g = some (29, cap * 4) := by simp [World.shape?, hb, hcs]
 have hov : ∀ lb cb, (callFunc 57 #[.slice (some ⟨gv, 0, none⟩) 1 1, .slice (some ⟨g, (i + 1) * 4, none⟩) lb cb]).run Tryd.prog w = .ok (.value (.bool false)) w := fun lb cb => by
  rw [run_callFunc_extern Tryd.func57 (by kernel_rfl) (by kernel_rfl) (by kernel_rfl) (e := Extern.SlicesOverlaps.overlaps #[24, 24] #[4]) (by kernel_rfl),
   Lib.run_overlaps_apart w 24 4 29 hus 4 hszS ⟨gv, 0, none⟩ ⟨g, (i + 1) * 4, none⟩ 1 1 lb cb hne 29 29 4 (cap * 4) hsa hsb (by omega) (blk_frozen hv _) (blk_frozen hv _)]
  rfl
 have hcell : ∀ j v, (impl_PutEntry.flat xs)[j]? = some v → w.cell? ⟨g, j, none⟩ = some v := fun j v hj => by
  rw [← hcur, List.getElem?_take] at hj
  split at hj
  {
  rw [cell_of_row w g _ cur 29 (0, 0) hb]
  simpa using hj}
  {
  cases hj}
 have hsp : ∀ j, j < (n + 1) * 4 → (w.cell? ⟨g, j, none⟩).isSome = true := fun j hj => by
  rw [cell_of_row w g _ cur 29 (0, 0) hb, Array.getElem?_eq_getElem (by omega)]; rfl
 have hfl := impl_PutEntry.flat_length xs
 rw [hn] at hfl
 have hdl : ((impl_PutEntry.flat xs).drop (i * 4)).length = (n - i) * 4 := by rw [List.length_drop, hfl]; omega
 obtain ⟨D, hD⟩ : ∃ D, D = (impl_PutEntry.flat xs).drop (i * 4) := ⟨_, rfl⟩
 rw [← hD] at hdl
 have hD1 : ∀ v ∈ D, v.oneCell' = true := fun v hv => impl_PutEntry.flat_one xs v (by rw [hD] at hv; exact List.mem_of_mem_drop hv)
 have hcp1 : ∀ ty dc sc, (Builtin.copy_ #[24, 24] ty #[.slice (some ⟨g, (i + 1) * 4, none⟩) (n - i) dc, .slice (some ⟨g, i * 4, none⟩) (n + 1 - i) sc]).run Tryd.prog w.drew = .ok (goInt ((n - i : Nat) : Int)) (w.drew.setCells g ((i + 1) * 4) D) := fun ty dc sc =>
  impl_PutEntry.run_copy_k w.drew _ _ ty 29 g ((i + 1) * 4) (n - i) dc ⟨g, i * 4, none⟩ (n + 1 - i) sc 4 (n - i) D hus hsz (by simp only [Nat.min_def]; split <;> omega) hdl
   (fun j v hj => by rw [Addr.add_lit]; exact hcell _ v (by rwa [hD, List.getElem?_drop] at hj))
   (fun j hj => hsp _ (by omega)) (fun j hj => blk_frozen hb _) hD1
 obtain ⟨W1, hW1⟩ : ∃ W1, W1 = w.drew.setCells g ((i + 1) * 4) D := ⟨_, rfl⟩
 have hsp1 : ∀ k, k < (n + 1) * 4 → (W1.cell? ⟨g, k, none⟩).isSome = true := fun k hk => by
  rw [hW1]
  exact impl_PutEntry.isSome_setCells g D ((i + 1) * 4) w.drew (fun j hj => hsp _ (by omega)) k (hsp k hk)
 have hcp2 : ∀ (W : World), (∀ x, W.cell? x = W1.cell? x) → (∀ x, W.frozen? x = W1.frozen? x) → ∀ ty dc, (Builtin.copy_ #[24, 24] ty #[.slice (some ⟨g, i * 4, none⟩) (n + 1 - i) dc, .slice (some ⟨gv, 0, none⟩) 1 1]).run Tryd.prog W = .ok (goInt 1) (W.setCells g (i * 4) (impl_PutEntry.ec x)) := fun W hWc hWf ty dc =>
  impl_PutEntry.run_copy_k W _ _ ty 29 g (i * 4) (n + 1 - i) dc ⟨gv, 0, none⟩ 1 1 4 1 (impl_PutEntry.ec x) hus hsz (by simp only [Nat.min_def]; split <;> omega) rfl
   (fun j v hj => by
    rw [Addr.add_lit, hWc, hW1, World.cell?_setCells_out g _ _ _ _ (fun h _ => absurd h hne)]
    show w.cell? ⟨gv, 0 + j, none⟩ = some v
    rw [cell_of_row w gv _ _ 29 (0, 0) hv]
    simpa using hj)
   (fun j hj => by rw [hWc]; exact hsp1 _ (by have : (impl_PutEntry.ec x).length = 4 := rfl; omega)) (fun j hj => by rw [hWf, hW1, World.frozen?_setCells]; exact blk_frozen hb _) (fun v hv => impl_PutEntry.flat_one [x] v (by unfold impl_PutEntry.flat; simpa using hv))
 have hz2 : ¬ ((i : Int) = (n : Int)) := by omega
 have hw1 : IntKind.i64.wrap ((i : Int) + 1) = (i : Int) + 1 := by rw [IntKind.wrap_i64]; omega
 have hw2 : IntKind.i64.wrap ((n : Int) + 1) = (n : Int) + 1 := by rw [IntKind.wrap_i64]; omega
 have hb1 : (0 : Int) ≤ (i : Int) + 1 := by omega
 have htn : ((i : Int) + 1).toNat = i + 1 := by omega
 have hb2 : ¬ (cap = i + 1) := by omega
 have hb3 : (i : Int) ≤ (n : Int) + 1 := by omega
 have hb4 : ¬ (cap = i) := by omega
 have hin : i ≤ n := by omega
 rw [← hW1] at hcp1
 go_enter Tryd.func40, Tryd.ntmps40
 go_wp2_with (simp only [hov])
 go_region_law (refine impl_PutEntry.step_copy rfl _ _ 24 24 rfl _ _ (by simp [Act.eval, Act.put]) (by simp [Act.eval, Act.put]) (hcp1 _ _ _) ?_)
 go_wp2_with (at_builtin; refine impl_PutEntry.wpList_copy _ rfl _ _ 24 24 rfl _ _ rfl rfl (hcp2 _ (fun _ => rfl) (fun _ => rfl) _ _) ?_)
 go_ret
 have hec : (impl_PutEntry.ec x).length = 4 := rfl
 obtain ⟨cur1, h3, h4, h5⟩ := setCells_row D ((i + 1) * 4) w.drew cur hb (by omega)
 obtain ⟨cur2, h6, h7, h8⟩ := setCells_row (impl_PutEntry.ec x) (i * 4) _ cur1 h3 (by omega)
 rw [← hD]
 have hlen : (xs.take i ++ x :: xs.drop i).length = n + 1 := by rw [List.length_append, List.length_cons, List.length_take, List.length_drop]; omega
 have hfin : cur2.toList.take ((n + 1) * 4) = impl_PutEntry.flat (xs.take i ++ x :: xs.drop i) := by
  rw [h8, h5, impl_PutEntry.take_ins cur.toList (impl_PutEntry.ec x) D i n hec (by rw [hcur, hD]) hin (by rw [Array.length_toList, hcs]; omega)]
  have h9 : cur.toList.take (i * 4) = impl_PutEntry.flat (xs.take i) := by
   rw [← impl_PutEntry.flat_take xs i (by omega), ← hcur, List.take_take, Nat.min_eq_left (by omega)]
  rw [h9, hD, impl_PutEntry.flat_drop xs i (by omega), List.append_assoc, impl_PutEntry.flat_append]
  rfl
 obtain ⟨s1, s2, s3, s4⟩ := setCells_same g D ((i + 1) * 4) w.drew
 obtain ⟨q1, q2, q3, q4⟩ := setCells_same g (impl_PutEntry.ec x) (i * 4) (w.drew.setCells g ((i + 1) * 4) D)
 refine ⟨rfl, impl_PutEntry.R_of_flat (fun _ _ => trivial) ?_, ⟨by rw [q1, s1]; rfl, by rw [q2, s2]; rfl, by rw [q3, s3]; rfl, by rw [q4, s4]; exact Nat.le_refl _, fun k hk hkg => ?_⟩⟩
 {
 rw [hlen]
 exact ⟨by rw [impl_PutEntry.flat_length, hlen], .inr ⟨g, cap, cur2, rfl, hbase, h6, hroom, hcap, by omega, hfin⟩⟩}
 {
 have hkg' : k ≠ g := fun he => hkg (by rw [he])
 rw [setCells_far _ _ k hkg', setCells_far _ _ k hkg']
 rfl}
set_option maxHeartbeats 4000000 in
/-- slices.Insert: no room: a new row. -/
theorem impl_PutEntry.ins_grow (x : S29) (xs : List S29) (i n g gv cap base : Nat) (hn : xs.length = n) (cur : Array Value) (w : World) (hi : i < n) (hroom : cap < n + 1) (hnc : n ≤ cap) (hbig : (n + 1) * 48 ≤ 140737488355328) (hbase : base ≤ w.heap.size)
    (hb : w.heap[g]? = some (.cells cur 29 (0, 0))) (hcs : cur.size = cap * 4) (hcur : cur.toList.take (n * 4) = impl_PutEntry.flat xs) (hv : w.heap[gv]? = some (.cells (impl_PutEntry.ec x).toArray 29 (0, 0))) :
    Calls Tryd.prog 40 #[.slice (some ⟨g, 0, none⟩) n cap, .int .i64 i, .slice (some ⟨gv, 0, none⟩) 1 1] w fun e w' =>
      ∃ G, e = .returned (.slice (some ⟨w.heap.size, 0, none⟩) (n + 1) G) ∧ Kd.R k29 29 w' base (fun _ => True) (.slice (some ⟨w.heap.size, 0, none⟩) (n + 1) G) (xs.take i ++ x :: xs.drop i) ∧ w.grownBy w' (some g) := by
  have hu := Tryd.underlying29
  have hus := Tryd.underlying24
  have hui := Tryd.underlying3
  obtain ⟨i0, hi0, hz⟩ := Option.map_eq_some_iff.1 info29
  simp only [Prod.mk.injEq] at hz
  obtain ⟨hz0, hzs, hzb⟩ := hz
  have hsz : (Tryd.prog.info? 29).map (·.size) = some 4 := by rw [hi0]; simp [hzs]
  have hgw : g < w.heap.size := blk_lt hb
  have hvw : gv < w.heap.size := blk_lt hv
  have hcell : ∀ j v, (impl_PutEntry.flat xs)[j]? = some v → w.cell? ⟨g, j, none⟩ = some v := fun j v hj => by
    rw [← hcur, List.getElem?_take] at hj
    split at hj
    · rw [cell_of_row w g _ cur 29 (0, 0) hb]
      simpa using hj
    · cases hj
  have hfl := impl_PutEntry.flat_length xs
  rw [hn] at hfl
  have hdl : ((impl_PutEntry.flat xs).drop (i * 4)).length = (n - i) * 4 := by rw [List.length_drop, hfl]; omega
  have htl : ((impl_PutEntry.flat xs).take (i * 4)).length = i * 4 := by rw [List.length_take, hfl]; omega
  obtain ⟨D, hD⟩ : ∃ D, D = (impl_PutEntry.flat xs).drop (i * 4) := ⟨_, rfl⟩
  obtain ⟨T, hT⟩ : ∃ T, T = (impl_PutEntry.flat xs).take (i * 4) := ⟨_, rfl⟩
  rw [← hD] at hdl
  rw [← hT] at htl
  have hD1 : ∀ v ∈ D, v.oneCell' = true := fun v hv => impl_PutEntry.flat_one xs v (by rw [hD] at hv; exact List.mem_of_mem_drop hv)
  have hkk : (n : Int) + 1 - (i : Int) = ((n + 1 - i : Nat) : Int) := by omega
  have hik : i + (n + 1 - i) = n + 1 := by omega
  have hold : (Builtin.firstCells i0.size i (.slice (some ⟨g, 0, none⟩) i cap)).run Tryd.prog w.drew = .ok T.toArray w.drew := by
    rw [hzs]
    exact run_firstCells_some w.drew 4 i ⟨g, 0, none⟩ i cap T htl (fun j v hj => by
      rw [Addr.add_lit, Nat.zero_add]
      rw [hT, List.getElem?_take] at hj
      split at hj
      · exact hcell j v hj
      · cases hj)
  have hrz : ∀ ty, (Builtin.append_ #[24, 3] ty #[.slice (some ⟨g, 0, none⟩) i cap, .int .i64 ((n : Int) + 1 - (i : Int))]).run Tryd.prog w =
      .ok (.slice (some ⟨w.heap.size, 0, none⟩) (n + 1) (grownCap w (n + 1) cap 29)) (w.drew.alloc (.cells (T.toArray ++ Builtin.zeroCells (Value.agg #[(.string ⟨#[]⟩), (.int .i64 0), (.string ⟨#[]⟩), (.bool false)]).cells (n + 1 - i) ++ Builtin.zeroCells (Value.agg #[(.string ⟨#[]⟩), (.int .i64 0), (.string ⟨#[]⟩), (.bool false)]).cells (grownCap w (n + 1) cap 29 - (n + 1))) 29)) := fun ty => by
    have h := Lib.run_append_grow_zeros w 24 3 ty 29 i0 _ .i64 .i64 hus hui hi0 hz0 (some ⟨g, 0, none⟩) i cap T hold (n + 1 - i) (by omega) (by omega) (by omega) (by omega) (by rw [hzb]; omega) (by rw [hzb, hik]; exact growslice_fits hroom hbig)
    rw [hik] at h
    rw [hkk]
    exact h
  obtain ⟨G, hG⟩ : ∃ G, G = grownCap w (n + 1) cap 29 := ⟨_, rfl⟩
  obtain ⟨ROW, hROW⟩ : ∃ ROW : Array Value, ROW = T.toArray ++ Builtin.zeroCells (Value.agg #[(.string ⟨#[]⟩), (.int .i64 0), (.string ⟨#[]⟩), (.bool false)]).cells (n + 1 - i) ++ Builtin.zeroCells (Value.agg #[(.string ⟨#[]⟩), (.int .i64 0), (.string ⟨#[]⟩), (.bool false)]).cells (G - (n + 1)) := ⟨_, rfl⟩
  rw [← hG] at hrz
  rw [← hROW] at hrz
  have hGn : n + 1 ≤ G := by rw [hG]; exact grownCap_ge w _ _ _
  have hG63 : G ≤ 9223372036854775807 := by
    have := grownCap_le_maxLen w (n + 1) cap 29 (by unfold maxLen; omega)
    rw [← hG] at this
    unfold maxLen at this
    omega
  have hzl : ∀ m, (Builtin.zeroCells (Value.agg #[(.string ⟨#[]⟩), (.int .i64 0), (.string ⟨#[]⟩), (.bool false)]).cells m).size = m * 4 := fun m => by simp [Builtin.zeroCells, Value.cells]
  have hRs : ROW.size = G * 4 := by
    rw [hROW, Array.size_append, Array.size_append, hzl, hzl, List.size_toArray, htl]
    omega
  have hRt : ROW.toList.take (i * 4) = T := by
    rw [hROW]
    simp only [Array.toList_append, List.append_assoc]
    rw [← htl, List.take_left]
  have hec : (impl_PutEntry.ec x).length = 4 := rfl
  obtain ⟨W1, hW1⟩ : ∃ W1, W1 = w.drew.alloc (.cells ROW 29) := ⟨_, rfl⟩
  rw [← hW1] at hrz
  have hN : ∀ j, j < (n + 1) * 4 → (W1.cell? ⟨w.heap.size, j, none⟩).isSome = true := fun j hj => by
    rw [hW1, World.cell?_alloc_at (w := w.drew) ROW _ w.heap.size j rfl, Array.getElem?_eq_getElem (by omega)]; rfl
  have hNf : ∀ j, W1.frozen? ⟨w.heap.size, j, none⟩ = false := fun j => by rw [hW1]; exact World.frozen?_alloc_at (w := w.drew) ROW _ w.heap.size j rfl
  have hOb : ∀ j v, w.cell? ⟨g, j, none⟩ = some v → W1.cell? ⟨g, j, none⟩ = some v := fun j v h => by rw [hW1, World.cell?_alloc_past (w := w.drew) _ g j hgw]; exact h
  have hOv : ∀ j v, w.cell? ⟨gv, j, none⟩ = some v → W1.cell? ⟨gv, j, none⟩ = some v := fun j v h => by rw [hW1, World.cell?_alloc_past (w := w.drew) _ gv j hvw]; exact h
  have hcpA : ∀ (W : World), (∀ x, W.cell? x = W1.cell? x) → (∀ x, W.frozen? x = W1.frozen? x) → ∀ ty dc, (Builtin.copy_ #[24, 24] ty #[.slice (some ⟨w.heap.size, i * 4, none⟩) (n + 1 - i) dc, .slice (some ⟨gv, 0, none⟩) 1 1]).run Tryd.prog W = .ok (goInt 1) (W.setCells w.heap.size (i * 4) (impl_PutEntry.ec x)) := fun W hWc hWf ty dc =>
    impl_PutEntry.run_copy_k W _ _ ty 29 w.heap.size (i * 4) (n + 1 - i) dc ⟨gv, 0, none⟩ 1 1 4 1 (impl_PutEntry.ec x) hus hsz (by simp only [Nat.min_def]; split <;> omega) rfl
      (fun j v hj => by
        rw [Addr.add_lit, hWc]
        refine hOv _ v ?_
        rw [cell_of_row w gv _ _ 29 (0, 0) hv, Nat.zero_add]
        simpa using hj)
      (fun j hj => by rw [hWc]; exact hN _ (by omega)) (fun j hj => by rw [hWf]; exact hNf _) (fun v hv => impl_PutEntry.flat_one [x] v (by unfold impl_PutEntry.flat; simpa using hv))
  have hbN : g ≠ w.heap.size := by omega
  have hcpB : ∀ (W : World), (∀ y, W.cell? y = (W1.setCells w.heap.size (i * 4) (impl_PutEntry.ec x)).cell? y) → (∀ y, W.frozen? y = (W1.setCells w.heap.size (i * 4) (impl_PutEntry.ec x)).frozen? y) → ∀ ty dc sc, (Builtin.copy_ #[24, 24] ty #[.slice (some ⟨w.heap.size, (i + 1) * 4, none⟩) (n - i) dc, .slice (some ⟨g, i * 4, none⟩) (n - i) sc]).run Tryd.prog W = .ok (goInt ((n - i : Nat) : Int)) (W.setCells w.heap.size ((i + 1) * 4) D) := fun W hWc hWf ty dc sc =>
    impl_PutEntry.run_copy_k W _ _ ty 29 w.heap.size ((i + 1) * 4) (n - i) dc ⟨g, i * 4, none⟩ (n - i) sc 4 (n - i) D hus hsz (by simp [Nat.min_def]) hdl
      (fun j v hj => by
        rw [Addr.add_lit, hWc, World.cell?_setCells_out _ _ _ _ _ (fun h _ => absurd h hbN)]
        exact hOb _ v (hcell _ v (by rwa [hD, List.getElem?_drop] at hj)))
      (fun j hj => by rw [hWc]; exact impl_PutEntry.isSome_setCells w.heap.size (impl_PutEntry.ec x) (i * 4) W1 (fun t ht => hN _ (by omega)) _ (hN _ (by omega)))
      (fun j hj => by rw [hWf, World.frozen?_setCells]; exact hNf _) hD1
  subst hW1
  have hE1 : ∀ y, ((w.alloc (.cells ROW 29)).drew).cell? y = (w.drew.alloc (.cells ROW 29)).cell? y := fun y => rfl
  have hE2 : ∀ y, ((w.alloc (.cells ROW 29)).drew).frozen? y = (w.drew.alloc (.cells ROW 29)).frozen? y := fun y => rfl
  have hz2 : ¬ ((i : Int) = (n : Int)) := by omega
  have hz3 : (cap : Int) < (n : Int) + 1 := by omega
  have hF1 : ∀ y, (((w.alloc (.cells ROW 29)).drew.setCells w.heap.size (i * 4) (impl_PutEntry.ec x)).drew).cell? y = ((w.drew.alloc (.cells ROW 29)).setCells w.heap.size (i * 4) (impl_PutEntry.ec x)).cell? y := fun y => rfl
  have hF2 : ∀ y, (((w.alloc (.cells ROW 29)).drew.setCells w.heap.size (i * 4) (impl_PutEntry.ec x)).drew).frozen? y = ((w.drew.alloc (.cells ROW 29)).setCells w.heap.size (i * 4) (impl_PutEntry.ec x)).frozen? y := fun y => rfl
  have hF3 : ∀ y, (((w.drew.alloc (.cells ROW 29)).setCells w.heap.size (i * 4) (impl_PutEntry.ec x)).drew).cell? y = ((w.drew.alloc (.cells ROW 29)).setCells w.heap.size (i * 4) (impl_PutEntry.ec x)).cell? y := fun y => rfl
  have hF4 : ∀ y, (((w.drew.alloc (.cells ROW 29)).setCells w.heap.size (i * 4) (impl_PutEntry.ec x)).drew).frozen? y = ((w.drew.alloc (.cells ROW 29)).setCells w.heap.size (i * 4) (impl_PutEntry.ec x)).frozen? y := fun y => rfl
  have hw1 : IntKind.i64.wrap ((i : Int) + 1) = (i : Int) + 1 := by rw [IntKind.wrap_i64]; omega
  have hw2 : IntKind.i64.wrap ((n : Int) + 1) = (n : Int) + 1 := by rw [IntKind.wrap_i64]; omega
  have hw3 : IntKind.i64.wrap ((n : Int) + 1 - (i : Int)) = (n : Int) + 1 - (i : Int) := by rw [IntKind.wrap_i64]; omega
  have hb1 : (0 : Int) ≤ (i : Int) + 1 := by omega
  have htn : ((i : Int) + 1).toNat = i + 1 := by omega
  have hGi : ¬ (G = i) := by omega
  have hGim : ¬ (G = i + 1) := by omega
  have hci : ¬ (cap = i) := by omega
  have hin : i ≤ n := by omega
  have hb3 : (i : Int) ≤ (n : Int) := by omega
  have hb4 : (i : Int) ≤ (n : Int) + 1 := by omega
  have hb5 : i ≤ cap := by omega
  clear hkk hik hold hROW hG
  go_enter Tryd.func40, Tryd.ntmps40
  go_wp2_with (first
    | (at_builtin; refine Lib.wpList_append_run _ rfl _ _ _ _ rfl _ _ rfl rfl _ _ (hrz _) ?_)
    | (at_builtin; refine impl_PutEntry.wpList_copy _ rfl _ _ 24 24 rfl _ _ rfl rfl (hcpA _ hE1 hE2 _ _) ?_)
    | (at_builtin; refine impl_PutEntry.wpList_copy _ rfl _ _ 24 24 rfl _ _ rfl rfl (hcpA _ (fun _ => rfl) (fun _ => rfl) _ _) ?_))
  go_region_law (refine impl_PutEntry.step_copy rfl _ _ 24 24 rfl (.slice (some ⟨w.heap.size, (i + 1) * 4, none⟩) (n - i) (G - (i + 1))) (.slice (some ⟨g, i * 4, none⟩) (n - i) (cap - i)) (by simp [Act.eval, Act.put]) (by simp [Act.eval, Act.put]) (hcpB _ hF1 hF2 3 (G - (i + 1)) (cap - i)) ?_)
  go_wp2
  go_ret
  have hb0 : (w.alloc (.cells ROW 29)).drew.heap[w.heap.size]? = some (.cells ROW 29 (0, 0)) := by show (w.heap.push _)[w.heap.size]? = _; simp
  obtain ⟨cur1, h3, h4, h5⟩ := setCells_row (impl_PutEntry.ec x) (i * 4) _ ROW hb0 (by omega)
  have h3d : ((w.alloc (.cells ROW 29)).drew.setCells w.heap.size (i * 4) (impl_PutEntry.ec x)).drew.heap[w.heap.size]? = some (.cells cur1 29 (0, 0)) := h3
  obtain ⟨cur2, h6, h7, h8⟩ := setCells_row D ((i + 1) * 4) _ cur1 h3d (by omega)
  rw [← hD]
  have hlen : (xs.take i ++ x :: xs.drop i).length = n + 1 := by rw [List.length_append, List.length_cons, List.length_take, List.length_drop]; omega
  have h9 : cur1.toList.take ((i + 1) * 4) = T ++ impl_PutEntry.ec x := by
    rw [h5, hRt, List.take_append_of_le_length (by rw [List.length_append]; omega), List.take_of_length_le (by rw [List.length_append]; omega)]
  have hfin : cur2.toList.take ((n + 1) * 4) = impl_PutEntry.flat (xs.take i ++ x :: xs.drop i) := by
    have h10 : (T ++ impl_PutEntry.ec x ++ D).length = (n + 1) * 4 := by rw [List.length_append, List.length_append]; omega
    rw [h8, h9, ← h10, List.take_left, hT, hD, impl_PutEntry.flat_take xs i (by omega), impl_PutEntry.flat_drop xs i (by omega), List.append_assoc, impl_PutEntry.flat_append]
    rfl
  obtain ⟨s1, s2, s3, s4⟩ := setCells_same w.heap.size (impl_PutEntry.ec x) (i * 4) (w.alloc (.cells ROW 29)).drew
  obtain ⟨q1, q2, q3, q4⟩ := setCells_same w.heap.size D ((i + 1) * 4) ((w.alloc (.cells ROW 29)).drew.setCells w.heap.size (i * 4) (impl_PutEntry.ec x)).drew
  refine ⟨G, rfl, impl_PutEntry.R_of_flat (fun _ _ => trivial) ?_, ⟨by rw [q1]; exact s1, by rw [q2]; exact s2, by rw [q3]; exact s3, by rw [q4]; show w.heap.size ≤ ((w.alloc (.cells ROW 29)).drew.setCells w.heap.size (i * 4) (impl_PutEntry.ec x)).heap.size; rw [s4]; show w.heap.size ≤ (w.heap.push _).size; rw [Array.size_push]; omega, fun k hk hkg => ?_⟩⟩
  · rw [hlen]
    exact ⟨by rw [impl_PutEntry.flat_length, hlen], .inr ⟨w.heap.size, G, cur2, rfl, hbase, h6, hGn, hG63, by omega, hfin⟩⟩
  · have hkg' : k ≠ w.heap.size := by omega
    rw [setCells_far _ _ k hkg']
    show ((w.alloc (.cells ROW 29)).drew.setCells w.heap.size (i * 4) (impl_PutEntry.ec x)).heap[k]? = _
    rw [setCells_far _ _ k hkg']
    show (w.heap.push _)[k]? = _
    rw [Array.getElem?_push_lt hk, Array.getElem?_eq_getElem hk]
set_option maxHeartbeats 4000000 in
/-- slices.Insert of one entry into a row of the call's own. -/
theorem impl_PutEntry.insert (x : S29) (xs : List S29) (i base gv : Nat) (v : Value) (w w0 : World) (hi : i ≤ xs.length) (hbig : xs.length ≤ 1000000) (hB : Below base w0 w) (hbase : base ≤ w.heap.size) (hO : Kd.R k29 29 w base (fun _ => True) v xs)
 (hv : w.heap[gv]? = some (.cells (impl_PutEntry.ec x).toArray 29 (0, 0))) (hne : some gv ≠ v.ownBlock) :
 Calls Tryd.prog 40 #[v, .int .i64 i, .slice (some ⟨gv, 0, none⟩) 1 1] w fun e w' =>
  ∃ v', e = .returned v' ∧ Kd.R k29 29 w' base (fun _ => True) v' (xs.take i ++ x :: xs.drop i) ∧ Below base w0 w' := by
 by_cases hin : i = xs.length
 {
 subst hin
 obtain ⟨A, c, rfl, hc, hC⟩ := Kd.R_reads hO
 have hrow : Kd.C k29 w (some ⟨gv, 0, none⟩) 1 [x] := ⟨rfl, by omega, fun _ => ⟨⟨gv, 0, none⟩, rfl, fun j p hj => by
  have hj0 : j = 0 := by have := (List.getElem?_eq_some_iff.1 hj).1; simp at this; omega
  subst hj0
  have hp : x = p := by simpa using hj
  subst hp
  refine ⟨impl_PutEntry.ec x, rfl, k29_mk w x, fun i u hu => ?_⟩
  rw [Addr.add_lit, cell_of_row w gv _ _ 29 (0, 0) hv, Nat.zero_mul, Nat.zero_add, Nat.zero_add]
  simpa using hu⟩⟩
 have HO := Aside0.mk hO
 have HB := Aside0.mk hB
 have HC := Aside0.mk hrow
 have HN := Aside0.mk (And.intro hC hc)
 have hl0 : ∀ (hA : A = none), xs.length = 0 := fun hA => by
  rcases Nat.eq_zero_or_pos xs.length with h | h
  {
  exact h}
  {
  obtain ⟨ad, had, _⟩ := hC.2.2 h
  rw [hA] at had; cases had}
 have hu := Tryd.underlying29
 have hus := Tryd.underlying24
 clear hO hB hrow hC hv hne
 have hcc : xs.length ≤ c := hc
 clear hc
 go_enter Tryd.func40, Tryd.ntmps40
 cases A with
 | none =>
  have h0 := hl0 rfl
  go_wp2_with (((with_reducible refine gate_builtin (b := .append) (xs := #[.tmp 23, .tmp 24]) rfl ?_); refine Kd.R_append_rows k29 (w0 := w0) base rfl (.tmp 23) (.tmp 24) 24 29 (.agg #[(.string ⟨#[]⟩), (.int .i64 0), (.string ⟨#[]⟩), (.bool false)]) 48 rfl hus info29 rfl (by decide) (by omega) _ xs [x] _ _ _ (fun _ => True) (fun _ => False) rfl rfl HO.out HC.out (fun _ _ h => h) (fun _ h => h.elim) (fun _ _ => trivial) HB.out hbase (by omega) ?_; intro v391 w5 ho hb hg hat))
  go_ret
  refine ⟨_, rfl, ?_, hb⟩
  obtain rfl := List.length_eq_zero_iff.1 h0
  exact ho
 | some ad =>
  obtain ⟨ab, ao, asp⟩ := ad
  go_wp2_with (((with_reducible refine gate_builtin (b := .append) (xs := #[.tmp 23, .tmp 24]) rfl ?_); refine Kd.R_append_rows k29 (w0 := w0) base rfl (.tmp 23) (.tmp 24) 24 29 (.agg #[(.string ⟨#[]⟩), (.int .i64 0), (.string ⟨#[]⟩), (.bool false)]) 48 rfl hus info29 rfl (by decide) (by omega) _ xs [x] _ _ _ (fun _ => True) (fun _ => False) rfl rfl HO.out HC.out (fun _ _ h => h) (fun _ h => h.elim) (fun _ _ => trivial) HB.out hbase (by omega) ?_; intro v391 w5 ho hb hg hat))
  all_goals (
   go_ret
   refine ⟨_, rfl, ?_, hb⟩
   first | exact ho | (rw [List.take_length, List.drop_length]; exact ho) | simpa using ho)}
 {
 have hf := impl_PutEntry.R_flat hO
 have hob := own_base hf
 rcases hf.2 with ⟨rfl, h0⟩ | ⟨g, cap, cur, rfl, hbg, hb, hnc, hcm, hcs, hcur⟩
 {
 omega}
 have hgne : gv ≠ g := fun he => hne (by rw [he]; rfl)
 have hcap : cap ≤ 9223372036854775807 := hcm
 rcases Nat.lt_or_ge cap (xs.length + 1) with hlt | hge
 {
 exact (impl_PutEntry.ins_grow x xs i xs.length g gv cap base rfl cur w (by omega) hlt hnc (by omega) hbase hb hcs hcur hv).mono fun e w' ⟨G, he, hR, hg⟩ => ⟨_, he, hR, hB.grown hg hbase hob⟩}
 {
 exact (impl_PutEntry.ins_room x xs i xs.length g gv cap base rfl cur w (by omega) hge hcap hgne hbg hb hcs hcur hv).mono fun e w' ⟨he, hR, hg⟩ => ⟨_, he, hR, hB.grown hg hbase hob⟩}}
def impl_PutEntry.gtB (p : ByteArray) (e : S29) : Bool := Op.bytesLess p.toList e.f0.toList
set_option maxHeartbeats 400000 in
theorem impl_PutEntry.cl (x : S29) (p : ByteArray) (g : Nat) (w : World) (hb : w.cell? ⟨g, 0, none⟩ = some (.string p)) (hg : g < w.heap.size) :
 Calls Tryd.prog 39 #[.agg #[.string x.f0, .int .i64 x.f1, .string x.f2, .bool x.f3], .pointer (some ⟨g, 0, none⟩)] w fun e w' => e = .returned (.bool (impl_PutEntry.gtB p x)) ∧ Below w.heap.size w w' := by
 have hu29 := Tryd.underlying29
 go_enter Tryd.func39, Tryd.ntmps39
 go_wp2
 go_ret
 exact ⟨rfl, by repeat (first | (with_reducible first | exact Below.refl _ _ | apply below_alloc | apply pw_below_drewN | apply below_drew1) | exact Below.refl _ _)⟩
def impl_PutEntry.first (q : S29 → Bool) : List S29 → Int → Int
 | [], _ => -1
 | e :: t, i => if q e = true then i else impl_PutEntry.first q t (i + 1)
theorem impl_PutEntry.fi_end (q : S29 → Bool) (l : List S29) (i : Nat) (h : l.length ≤ i) : impl_PutEntry.first q (l.drop i) i = -1 := by
 rw [List.drop_eq_nil_of_le h]; rfl
theorem impl_PutEntry.fi_yes (q : S29 → Bool) (l : List S29) (i : Nat) (h : i < l.length) (hc : q (rd_T29 l i) = true) : impl_PutEntry.first q (l.drop i) i = i := by
 rw [List.drop_eq_getElem_cons h, impl_PutEntry.first, if_pos]
 simpa [rd_T29, List.getD_eq_getElem?_getD, List.getElem?_eq_getElem h] using hc
theorem impl_PutEntry.fi_no (q : S29 → Bool) (l : List S29) (i : Nat) (h : i < l.length) (hc : q (rd_T29 l i) = false) : impl_PutEntry.first q (l.drop i) i = impl_PutEntry.first q (l.drop (i + 1)) ((i + 1 : Nat) : Int) := by
 rw [List.drop_eq_getElem_cons h, impl_PutEntry.first, if_neg]
 {
 rfl}
 {
 simpa [rd_T29, List.getD_eq_getElem?_getD, List.getElem?_eq_getElem h] using hc}
set_option maxHeartbeats 1000000 in
theorem impl_PutEntry.indexFunc (A0 : Option Addr) (c0 : Nat) (l0 : List S29) (p : ByteArray) (g : Nat) (w : World) (hr0 : Kd.C k29 w A0 l0.length l0) (hc0 : l0.length ≤ c0) (hb : w.cell? ⟨g, 0, none⟩ = some (.string p)) (hg : g < w.heap.size) :
 Calls Tryd.prog 38 #[.slice A0 l0.length c0, .func (.func 39) #[] #[.pointer (some ⟨g, 0, none⟩)]] w fun e w' => e = .returned (.int .i64 (impl_PutEntry.first (impl_PutEntry.gtB p) l0 0)) ∧ Below w.heap.size w w' := by
 have hu29 := Tryd.underlying29
 have HR0 := Aside0.mk hr0
 have HC0 := Aside0.mk hc0
 have HX := Aside0.mk (And.intro hb hg)
 have hl := hr0.2.1
 clear hr0 hc0 hb hg
 have HB := Aside0.mk (Below.refl w.heap.size w)
 go_enter Tryd.func38, Tryd.ntmps38
 go_wp2
 go_loopw [8] (fun v8 w' => ∃ i : Nat, v8 = .int .i64 i ∧ i ≤ l0.length ∧ Aside0 (impl_PutEntry.first (impl_PutEntry.gtB p) l0 0 = impl_PutEntry.first (impl_PutEntry.gtB p) (l0.drop i) i) ∧ Aside0 (Below w.heap.size w w')) (fun v8 _ => l0.length - (intOf v8).toNat)
 case atStart => exact ⟨0, rfl, Nat.zero_le _, ⟨rfl⟩, ⟨Below.refl _ _⟩⟩
 case round =>
  clear HB
  obtain ⟨i, rfl, hi, HF, HB⟩ := hrel
  by_cases hlt : i < l0.length
  {
  have p1 : 0 ≤ (i : Int) := by omega
  have q1 : (i : Int) < (l0.length : Int) := by omega
  obtain ⟨ad, e1, hx_0, hx_1, hx_2, hx_3⟩ := at_T29 HR0.out i p1 q1
  cases e1
  replace hx_0 := hX_ HB hx_0
  replace hx_1 := hX_ HB hx_1
  replace hx_2 := hX_ HB hx_2
  replace hx_3 := hX_ HB hx_3
  simp only [Int.toNat_natCast] at hx_0 hx_1 hx_2 hx_3
  have hbx := (HB.out.cell (World.block_lt_of_cell? w _ HX.out.1)).trans HX.out.1
  have hs := HB.out.size
  have c1 : decide ((i : Int) < (l0.length : Int)) = true := by simpa using hlt
  have c2 : decide ((i : Nat) < l0.length) = true := by simpa using hlt
  cases hcc : impl_PutEntry.gtB p (rd_T29 l0 i) with
  | true =>
   have HCC := Aside0.mk hcc
   clear hcc
   go_wp2_with (go_at_call 39; refine (impl_PutEntry.cl (rd_T29 l0 i) p g _ hbx (by have := HX.out.2; omega)).mono ?_; rintro e w8 ⟨rfl, hb8⟩; rw [HCC.out])
   go_ret
   refine ⟨?_, below_step HB.out hb8⟩
   rw [HF.out, impl_PutEntry.fi_yes _ l0 i hlt HCC.out]
   rfl
  | false =>
   have HCC := Aside0.mk hcc
   clear hcc
   have hw : wrap64 ((i : Int) + 1) = ((i + 1 : Nat) : Int) := by unfold wrap64; omega
   go_wp2_with (go_at_call 39; refine (impl_PutEntry.cl (rd_T29 l0 i) p g _ hbx (by have := HX.out.2; omega)).mono ?_; rintro e w8 ⟨rfl, hb8⟩; rw [HCC.out])
   go_roundw
   case rel => exact ⟨i + 1, by first | rfl | (rw [hw]) | (congr 1), by omega, ⟨by rw [HF.out, impl_PutEntry.fi_no _ l0 i hlt HCC.out]⟩, ⟨below_step HB.out hb8⟩⟩
   case measure => simp [intOf]; omega}
  {
  have c1 : decide ((i : Int) < (l0.length : Int)) = false := by simpa using hlt
  have c2 : decide ((i : Nat) < l0.length) = false := by simpa using hlt
  go_wp2
  go_ret
  refine ⟨?_, HB.out⟩
  rw [HF.out, impl_PutEntry.fi_end _ l0 i (by omega)]
  rfl}
def impl_PutEntry.put (y : List S29) (x : S29) (i : Int) : Option (List S29) := if i < 0 then (if impl_PutEntry.first (impl_PutEntry.gtB x.f0) y 0 < 0 then some (y.take y.length ++ x :: y.drop y.length) else if impl_PutEntry.first (impl_PutEntry.gtB x.f0) y 0 ≤ (y.length : Int) then some (y.take (impl_PutEntry.first (impl_PutEntry.gtB x.f0) y 0).toNat ++ x :: y.drop (impl_PutEntry.first (impl_PutEntry.gtB x.f0) y 0).toNat) else none) else if i < (y.length : Int) then some (y.set i.toNat x) else none
def impl_PutEntry.f (k : Nat) (l0 : List S29) (a1_0 : ByteArray) (a1_1 : Int) (a1_2 : ByteArray) (a1_3 : Bool) : Option (List S29 × Bool) := (impl_TreeOk.f k l0).bind fun t => if t = true then (impl_cloneTree.f l0).bind fun y => (impl_entryAt.f y a1_0).bind fun i => if y.length ≤ 1000000 then (impl_PutEntry.put y ⟨a1_0, a1_1, a1_2, a1_3⟩ i).bind fun z => (impl_TreeOk.f k z).bind fun t2 => if t2 = true then some (z, true) else some (y, false) else none else some ([], false)
set_option maxHeartbeats 4000000 in
theorem impl_PutEntry.calls (k : Nat) (A0 : Option Addr) (c0 : Nat) (l0 : List (S29)) (a1_0 : ByteArray) (a1_1 : Int) (a1_2 : ByteArray) (a1_3 : Bool) (r1 : List (S29)) (r2 : Bool) (w : World) (hE : EnvW w) (hr0 : Kd.C k29 w A0 l0.length l0) (hc0 : l0.length ≤ c0) (h : impl_PutEntry.f k l0 a1_0 a1_1 a1_2 a1_3 = some (r1, r2)) :
 Calls Tryd.prog 16 #[.slice A0 l0.length c0, .agg #[.string a1_0, .int .i64 a1_1, .string a1_2, .bool a1_3]] w fun e w' => ∃ v0_ : Value, e = .returned (.tuple #[v0_, .bool r2]) ∧ Kd.R k29 29 w' w.heap.size (fun _ => True) v0_ r1 ∧ Below w.heap.size w w' := by
 unfold impl_PutEntry.f at h
 obtain ⟨t, ht, h⟩ := Option.bind_eq_some_iff.mp h
 have hu29 := Tryd.underlying29
 have hus := Tryd.underlying24
 -- the world behind the box
 have hb1 : Below w.heap.size w (w.alloc (.cells #[.string a1_0, .int .i64 a1_1, .string a1_2, .bool a1_3] 29)) := below_alloc (Below.refl _ _) _
 have HB1 := Aside0.mk hb1
 have HT := Aside0.mk ht
 have HE1 := Aside0.mk (EnvW.below hE hb1)
 have HR1 := Aside0.mk (And.intro (Kd.C_below hr0 hb1) hc0)
 obtain ⟨gb, hgb⟩ : ∃ gb, gb = w.heap.size := ⟨_, rfl⟩
 have HQ := Aside0.mk (show (w.alloc (.cells #[.string a1_0, .int .i64 a1_1, .string a1_2, .bool a1_3] 29)).cell? ⟨w.heap.size, 0, none⟩ = some (.string a1_0) ∧ (w.alloc (.cells #[.string a1_0, .int .i64 a1_1, .string a1_2, .bool a1_3] 29)).cell? ⟨w.heap.size, 1, none⟩ = some (.int .i64 a1_1) ∧ (w.alloc (.cells #[.string a1_0, .int .i64 a1_1, .string a1_2, .bool a1_3] 29)).cell? ⟨w.heap.size, 2, none⟩ = some (.string a1_2) ∧ (w.alloc (.cells #[.string a1_0, .int .i64 a1_1, .string a1_2, .bool a1_3] 29)).cell? ⟨w.heap.size, 3, none⟩ = some (.bool a1_3) ∧ w.heap.size < (w.alloc (.cells #[.string a1_0, .int .i64 a1_1, .string a1_2, .bool a1_3] 29)).heap.size from ⟨by simp [go_sem], by simp [go_sem], by simp [go_sem], by simp [go_sem], by show _ < (w.heap.push _).size; rw [Array.size_push]; omega⟩)
 have HEE := Aside0.mk hE
 have HRR := Aside0.mk (And.intro hr0 hc0)
 clear hb1 ht hE hr0 hc0 hgb
 cases t with
 | false =>
  rw [if_neg (by decide)] at h
  obtain ⟨rfl, rfl⟩ := Prod.mk.inj (Option.some.inj h)
  clear h
  go_enter Tryd.func16, Tryd.ntmps16
  go_wp2_with (go_at_call 22; refine (impl_TreeOk.calls k A0 c0 l0 false _ HE1.out HR1.out.1 HR1.out.2 HT.out).mono ?_; rintro e w8 ⟨rfl, hb8⟩)
  exact bodyPost_ret (v := .tuple #[.slice none 0 0, .bool false]) (by simp [results, Tryd.results16, go_sem]) rfl ⟨_, rfl, Kd.R_nil _ _ _ _ _, below_step HB1.out hb8⟩
 | true =>
  rw [if_pos rfl] at h
  obtain ⟨y, hy, h⟩ := Option.bind_eq_some_iff.mp h
  obtain ⟨i, hi, h⟩ := Option.bind_eq_some_iff.mp h
  by_cases hyl : y.length ≤ 1000000
  case neg => rw [if_neg hyl] at h; cases h
  rw [if_pos hyl] at h
  obtain ⟨z, hz, h⟩ := Option.bind_eq_some_iff.mp h
  obtain ⟨t2, ht2, h⟩ := Option.bind_eq_some_iff.mp h
  have HY := Aside0.mk (And.intro hy hi)
  have HT2 := Aside0.mk ht2
  clear hy hi ht2
  unfold impl_PutEntry.put at hz
  by_cases hneg : i < 0
  {
  rw [if_pos hneg] at hz
  have cn : decide (i < 0) = true := decide_eq_true hneg
  by_cases hk : impl_PutEntry.first (impl_PutEntry.gtB a1_0) y 0 < 0
  {
  have hz : (if impl_PutEntry.first (impl_PutEntry.gtB a1_0) y 0 < 0 then some (y.take y.length ++ (⟨a1_0, a1_1, a1_2, a1_3⟩ : S29) :: y.drop y.length) else if impl_PutEntry.first (impl_PutEntry.gtB a1_0) y 0 ≤ (y.length : Int) then some (y.take (impl_PutEntry.first (impl_PutEntry.gtB a1_0) y 0).toNat ++ (⟨a1_0, a1_1, a1_2, a1_3⟩ : S29) :: y.drop (impl_PutEntry.first (impl_PutEntry.gtB a1_0) y 0).toNat) else none) = some z := hz
  rw [if_pos hk] at hz
  have HZ := Aside0.mk (Option.some.inj hz)
  clear hz
  have ck : decide (impl_PutEntry.first (impl_PutEntry.gtB a1_0) y 0 < 0) = true := decide_eq_true hk
  cases t2 with
  | true =>
   obtain ⟨rfl, rfl⟩ := Prod.mk.inj (Option.some.inj h)
   clear h
   go_enter Tryd.func16, Tryd.ntmps16
   go_wp2_with (first | (go_at_call 22; (with_reducible refine (impl_TreeOk.calls k A0 c0 l0 true _ HE1.out HR1.out.1 HR1.out.2 HT.out).mono ?_); rintro e w8 ⟨rfl, hb8⟩; clear HT) | (go_at_call 37; (with_reducible refine (impl_cloneTree.calls A0 c0 l0 y _ (Kd.C_below HR1.out.1 hb8) HR1.out.2 HY.out.1).mono ?_); rintro e w9 ⟨vy, rfl, hO9, hb9⟩; (obtain ⟨Ay, cy, rfl, hcy, hCy⟩ := Kd.R_reads hO9); have hqx := pw_cell_below hb9 (pw_cell_below hb8 HQ.out.1)) | (go_at_call 36; (with_reducible refine (impl_entryAt.calls Ay cy y a1_0 i _ hCy hcy HY.out.2).mono ?_); rintro e w10 ⟨rfl, hb10⟩; have HO10 := Aside0.mk (Kd.R_lower (Kd.R_below hO9 hb10) (show w.heap.size ≤ _ from by have := HB1.out.size; have := hb8.size; omega)); have HC10 := Aside0.mk (Kd.C_below hCy hb10); have HB10 := Aside0.mk (below_step (below_step (below_step HB1.out hb8) hb9) hb10); have HQ10 := Aside0.mk (show _ ∧ _ ∧ _ ∧ _ ∧ w.heap.size < w10.heap.size from ⟨pw_cell_below hb10 hqx, pw_cell_below hb10 (pw_cell_below hb9 (pw_cell_below hb8 HQ.out.2.1)), pw_cell_below hb10 (pw_cell_below hb9 (pw_cell_below hb8 HQ.out.2.2.1)), pw_cell_below hb10 (pw_cell_below hb9 (pw_cell_below hb8 HQ.out.2.2.2.1)), by have := HQ.out.2.2.2.2; have := hb8.size; have := hb9.size; have := hb10.size; omega⟩); clear hqx hCy hO9 hb8 hb9 hb10) | (go_at_call 38; refine (impl_PutEntry.indexFunc Ay cy y a1_0 w.heap.size w10 HC10.out hcy HQ10.out.1 HQ10.out.2.2.2.2).mono ?_; rintro e w11 ⟨rfl, hb11⟩; (try rw [HK.out]); have HO11 := Aside0.mk (Kd.R_below HO10.out hb11); have HB11 := Aside0.mk (below_step HB10.out hb11); have hy_0 := pw_cell_below hb11 HQ10.out.1; have hy_1 := pw_cell_below hb11 HQ10.out.2.1; have hy_2 := pw_cell_below hb11 HQ10.out.2.2.1; have hy_3 := pw_cell_below hb11 HQ10.out.2.2.2.1; clear HO10 HC10 HB10 HQ10 hb11) | (go_at_call 40; refine (impl_PutEntry.insert ⟨a1_0, a1_1, a1_2, a1_3⟩ y y.length w.heap.size w11.heap.size (.slice Ay y.length cy) _ w (Nat.le_refl _) hyl (below_step HB11.out (below_alloc (Below.refl _ _) _)) (by have := HB11.out.size; show _ ≤ (w11.heap.push _).size; rw [Array.size_push]; omega) (Kd.R_alloc HO11.out _) (by show (w11.heap.push _)[w11.heap.size]? = _; rw [Array.getElem?_push_size]; rfl) (fun he => by obtain ⟨_, ho_⟩ := Kd.R_own HO11.out; have := own_lt ho_ _ he.symm; omega)).mono ?_; rintro e w13 ⟨v13, rfl, hO13, hb13⟩; rw [HZ.out] at hO13; have HO13 := Aside0.mk hO13; have HB13 := Aside0.mk hb13; clear hO13 hb13 HO11 HB11 hy_0 hy_1 hy_2 hy_3; (obtain ⟨Az, cz, rfl, hcz, hCz⟩ := Kd.R_reads HO13.out)) | (go_at_call 22; (with_reducible refine (impl_TreeOk.calls k Az cz _ true w13 (EnvW.below HEE.out HB13.out) hCz hcz HT2.out).mono ?_); rintro e w14 ⟨rfl, hb14⟩))
   exact bodyPost_ret (v := .tuple #[.slice Az z.length cz, .bool true]) (by simp [results, Tryd.results16, go_sem]) rfl ⟨_, rfl, Kd.R_below HO13.out hb14, below_step HB13.out hb14⟩
  | false =>
   obtain ⟨rfl, rfl⟩ := Prod.mk.inj (Option.some.inj h)
   clear h
   go_enter Tryd.func16, Tryd.ntmps16
   go_wp2_with (first | (go_at_call 22; (with_reducible refine (impl_TreeOk.calls k A0 c0 l0 true _ HE1.out HR1.out.1 HR1.out.2 HT.out).mono ?_); rintro e w8 ⟨rfl, hb8⟩; clear HT) | (go_at_call 37; (with_reducible refine (impl_cloneTree.calls A0 c0 l0 y _ (Kd.C_below HR1.out.1 hb8) HR1.out.2 HY.out.1).mono ?_); rintro e w9 ⟨vy, rfl, hO9, hb9⟩; (obtain ⟨Ay, cy, rfl, hcy, hCy⟩ := Kd.R_reads hO9); have hqx := pw_cell_below hb9 (pw_cell_below hb8 HQ.out.1)) | (go_at_call 36; (with_reducible refine (impl_entryAt.calls Ay cy y a1_0 i _ hCy hcy HY.out.2).mono ?_); rintro e w10 ⟨rfl, hb10⟩; have HO10 := Aside0.mk (Kd.R_lower (Kd.R_below hO9 hb10) (show w.heap.size ≤ _ from by have := HB1.out.size; have := hb8.size; omega)); have HC10 := Aside0.mk (Kd.C_below hCy hb10); have HB10 := Aside0.mk (below_step (below_step (below_step HB1.out hb8) hb9) hb10); have HQ10 := Aside0.mk (show _ ∧ _ ∧ _ ∧ _ ∧ w.heap.size < w10.heap.size from ⟨pw_cell_below hb10 hqx, pw_cell_below hb10 (pw_cell_below hb9 (pw_cell_below hb8 HQ.out.2.1)), pw_cell_below hb10 (pw_cell_below hb9 (pw_cell_below hb8 HQ.out.2.2.1)), pw_cell_below hb10 (pw_cell_below hb9 (pw_cell_below hb8 HQ.out.2.2.2.1)), by have := HQ.out.2.2.2.2; have := hb8.size; have := hb9.size; have := hb10.size; omega⟩); clear hqx hCy hO9 hb8 hb9 hb10) | (go_at_call 38; refine (impl_PutEntry.indexFunc Ay cy y a1_0 w.heap.size w10 HC10.out hcy HQ10.out.1 HQ10.out.2.2.2.2).mono ?_; rintro e w11 ⟨rfl, hb11⟩; (try rw [HK.out]); have HO11 := Aside0.mk (Kd.R_below HO10.out hb11); have HB11 := Aside0.mk (below_step HB10.out hb11); have hy_0 := pw_cell_below hb11 HQ10.out.1; have hy_1 := pw_cell_below hb11 HQ10.out.2.1; have hy_2 := pw_cell_below hb11 HQ10.out.2.2.1; have hy_3 := pw_cell_below hb11 HQ10.out.2.2.2.1; clear HO10 HC10 HB10 HQ10 hb11) | (go_at_call 40; refine (impl_PutEntry.insert ⟨a1_0, a1_1, a1_2, a1_3⟩ y y.length w.heap.size w11.heap.size (.slice Ay y.length cy) _ w (Nat.le_refl _) hyl (below_step HB11.out (below_alloc (Below.refl _ _) _)) (by have := HB11.out.size; show _ ≤ (w11.heap.push _).size; rw [Array.size_push]; omega) (Kd.R_alloc HO11.out _) (by show (w11.heap.push _)[w11.heap.size]? = _; rw [Array.getElem?_push_size]; rfl) (fun he => by obtain ⟨_, ho_⟩ := Kd.R_own HO11.out; have := own_lt ho_ _ he.symm; omega)).mono ?_; rintro e w13 ⟨v13, rfl, hO13, hb13⟩; rw [HZ.out] at hO13; have HO13 := Aside0.mk hO13; have HB13 := Aside0.mk hb13; clear hO13 hb13 HO11 HB11 hy_0 hy_1 hy_2 hy_3; (obtain ⟨Az, cz, rfl, hcz, hCz⟩ := Kd.R_reads HO13.out)) | (go_at_call 22; (with_reducible refine (impl_TreeOk.calls k Az cz _ false w13 (EnvW.below HEE.out HB13.out) hCz hcz HT2.out).mono ?_); rintro e w14 ⟨rfl, hb14⟩) | (go_at_call 37; (with_reducible refine (impl_cloneTree.calls A0 c0 l0 y _ (Kd.C_below HRR.out.1 (below_step HB13.out hb14)) HRR.out.2 HY.out.1).mono ?_); rintro e w15 ⟨v15, rfl, hO15, hb15⟩))
   exact bodyPost_ret (v := .tuple #[v15, .bool false]) (by simp [results, Tryd.results16, go_sem]) rfl ⟨_, rfl, Kd.R_lower hO15 (below_step HB13.out hb14).size, below_step (below_step HB13.out hb14) hb15⟩}
  {
  have hz : (if impl_PutEntry.first (impl_PutEntry.gtB a1_0) y 0 < 0 then some (y.take y.length ++ (⟨a1_0, a1_1, a1_2, a1_3⟩ : S29) :: y.drop y.length) else if impl_PutEntry.first (impl_PutEntry.gtB a1_0) y 0 ≤ (y.length : Int) then some (y.take (impl_PutEntry.first (impl_PutEntry.gtB a1_0) y 0).toNat ++ (⟨a1_0, a1_1, a1_2, a1_3⟩ : S29) :: y.drop (impl_PutEntry.first (impl_PutEntry.gtB a1_0) y 0).toNat) else none) = some z := hz
  rw [if_neg hk] at hz
  by_cases hle : impl_PutEntry.first (impl_PutEntry.gtB a1_0) y 0 ≤ (y.length : Int)
  case neg => rw [if_neg hle] at hz; cases hz
  rw [if_pos hle] at hz
  have HZ := Aside0.mk (Option.some.inj hz)
  clear hz
  obtain ⟨j, hK⟩ : ∃ j : Nat, impl_PutEntry.first (impl_PutEntry.gtB a1_0) y 0 = j := ⟨(impl_PutEntry.first (impl_PutEntry.gtB a1_0) y 0).toNat, by omega⟩
  rw [hK, Int.toNat_natCast] at HZ
  rw [hK] at hk hle
  have HK := Aside0.mk hK
  have hjl : j ≤ y.length := by omega
  have ck : decide ((j : Int) < 0) = false := decide_eq_false hk
  clear hK
  cases t2 with
  | true =>
   obtain ⟨rfl, rfl⟩ := Prod.mk.inj (Option.some.inj h)
   clear h
   go_enter Tryd.func16, Tryd.ntmps16
   go_wp2_with (first | (go_at_call 22; (with_reducible refine (impl_TreeOk.calls k A0 c0 l0 true _ HE1.out HR1.out.1 HR1.out.2 HT.out).mono ?_); rintro e w8 ⟨rfl, hb8⟩; clear HT) | (go_at_call 37; (with_reducible refine (impl_cloneTree.calls A0 c0 l0 y _ (Kd.C_below HR1.out.1 hb8) HR1.out.2 HY.out.1).mono ?_); rintro e w9 ⟨vy, rfl, hO9, hb9⟩; (obtain ⟨Ay, cy, rfl, hcy, hCy⟩ := Kd.R_reads hO9); have hqx := pw_cell_below hb9 (pw_cell_below hb8 HQ.out.1)) | (go_at_call 36; (with_reducible refine (impl_entryAt.calls Ay cy y a1_0 i _ hCy hcy HY.out.2).mono ?_); rintro e w10 ⟨rfl, hb10⟩; have HO10 := Aside0.mk (Kd.R_lower (Kd.R_below hO9 hb10) (show w.heap.size ≤ _ from by have := HB1.out.size; have := hb8.size; omega)); have HC10 := Aside0.mk (Kd.C_below hCy hb10); have HB10 := Aside0.mk (below_step (below_step (below_step HB1.out hb8) hb9) hb10); have HQ10 := Aside0.mk (show _ ∧ _ ∧ _ ∧ _ ∧ w.heap.size < w10.heap.size from ⟨pw_cell_below hb10 hqx, pw_cell_below hb10 (pw_cell_below hb9 (pw_cell_below hb8 HQ.out.2.1)), pw_cell_below hb10 (pw_cell_below hb9 (pw_cell_below hb8 HQ.out.2.2.1)), pw_cell_below hb10 (pw_cell_below hb9 (pw_cell_below hb8 HQ.out.2.2.2.1)), by have := HQ.out.2.2.2.2; have := hb8.size; have := hb9.size; have := hb10.size; omega⟩); clear hqx hCy hO9 hb8 hb9 hb10) | (go_at_call 38; refine (impl_PutEntry.indexFunc Ay cy y a1_0 w.heap.size w10 HC10.out hcy HQ10.out.1 HQ10.out.2.2.2.2).mono ?_; rintro e w11 ⟨rfl, hb11⟩; (try rw [HK.out]); have HO11 := Aside0.mk (Kd.R_below HO10.out hb11); have HB11 := Aside0.mk (below_step HB10.out hb11); have hy_0 := pw_cell_below hb11 HQ10.out.1; have hy_1 := pw_cell_below hb11 HQ10.out.2.1; have hy_2 := pw_cell_below hb11 HQ10.out.2.2.1; have hy_3 := pw_cell_below hb11 HQ10.out.2.2.2.1; clear HO10 HC10 HB10 HQ10 hb11) | (go_at_call 40; refine (impl_PutEntry.insert ⟨a1_0, a1_1, a1_2, a1_3⟩ y j w.heap.size w11.heap.size (.slice Ay y.length cy) _ w hjl hyl (below_step HB11.out (below_alloc (Below.refl _ _) _)) (by have := HB11.out.size; show _ ≤ (w11.heap.push _).size; rw [Array.size_push]; omega) (Kd.R_alloc HO11.out _) (by show (w11.heap.push _)[w11.heap.size]? = _; rw [Array.getElem?_push_size]; rfl) (fun he => by obtain ⟨_, ho_⟩ := Kd.R_own HO11.out; have := own_lt ho_ _ he.symm; omega)).mono ?_; rintro e w13 ⟨v13, rfl, hO13, hb13⟩; rw [HZ.out] at hO13; have HO13 := Aside0.mk hO13; have HB13 := Aside0.mk hb13; clear hO13 hb13 HO11 HB11 hy_0 hy_1 hy_2 hy_3; (obtain ⟨Az, cz, rfl, hcz, hCz⟩ := Kd.R_reads HO13.out)) | (go_at_call 22; (with_reducible refine (impl_TreeOk.calls k Az cz _ true w13 (EnvW.below HEE.out HB13.out) hCz hcz HT2.out).mono ?_); rintro e w14 ⟨rfl, hb14⟩))
   exact bodyPost_ret (v := .tuple #[.slice Az z.length cz, .bool true]) (by simp [results, Tryd.results16, go_sem]) rfl ⟨_, rfl, Kd.R_below HO13.out hb14, below_step HB13.out hb14⟩
  | false =>
   obtain ⟨rfl, rfl⟩ := Prod.mk.inj (Option.some.inj h)
   clear h
   go_enter Tryd.func16, Tryd.ntmps16
   go_wp2_with (first | (go_at_call 22; (with_reducible refine (impl_TreeOk.calls k A0 c0 l0 true _ HE1.out HR1.out.1 HR1.out.2 HT.out).mono ?_); rintro e w8 ⟨rfl, hb8⟩; clear HT) | (go_at_call 37; (with_reducible refine (impl_cloneTree.calls A0 c0 l0 y _ (Kd.C_below HR1.out.1 hb8) HR1.out.2 HY.out.1).mono ?_); rintro e w9 ⟨vy, rfl, hO9, hb9⟩; (obtain ⟨Ay, cy, rfl, hcy, hCy⟩ := Kd.R_reads hO9); have hqx := pw_cell_below hb9 (pw_cell_below hb8 HQ.out.1)) | (go_at_call 36; (with_reducible refine (impl_entryAt.calls Ay cy y a1_0 i _ hCy hcy HY.out.2).mono ?_); rintro e w10 ⟨rfl, hb10⟩; have HO10 := Aside0.mk (Kd.R_lower (Kd.R_below hO9 hb10) (show w.heap.size ≤ _ from by have := HB1.out.size; have := hb8.size; omega)); have HC10 := Aside0.mk (Kd.C_below hCy hb10); have HB10 := Aside0.mk (below_step (below_step (below_step HB1.out hb8) hb9) hb10); have HQ10 := Aside0.mk (show _ ∧ _ ∧ _ ∧ _ ∧ w.heap.size < w10.heap.size from ⟨pw_cell_below hb10 hqx, pw_cell_below hb10 (pw_cell_below hb9 (pw_cell_below hb8 HQ.out.2.1)), pw_cell_below hb10 (pw_cell_below hb9 (pw_cell_below hb8 HQ.out.2.2.1)), pw_cell_below hb10 (pw_cell_below hb9 (pw_cell_below hb8 HQ.out.2.2.2.1)), by have := HQ.out.2.2.2.2; have := hb8.size; have := hb9.size; have := hb10.size; omega⟩); clear hqx hCy hO9 hb8 hb9 hb10) | (go_at_call 38; refine (impl_PutEntry.indexFunc Ay cy y a1_0 w.heap.size w10 HC10.out hcy HQ10.out.1 HQ10.out.2.2.2.2).mono ?_; rintro e w11 ⟨rfl, hb11⟩; (try rw [HK.out]); have HO11 := Aside0.mk (Kd.R_below HO10.out hb11); have HB11 := Aside0.mk (below_step HB10.out hb11); have hy_0 := pw_cell_below hb11 HQ10.out.1; have hy_1 := pw_cell_below hb11 HQ10.out.2.1; have hy_2 := pw_cell_below hb11 HQ10.out.2.2.1; have hy_3 := pw_cell_below hb11 HQ10.out.2.2.2.1; clear HO10 HC10 HB10 HQ10 hb11) | (go_at_call 40; refine (impl_PutEntry.insert ⟨a1_0, a1_1, a1_2, a1_3⟩ y j w.heap.size w11.heap.size (.slice Ay y.length cy) _ w hjl hyl (below_step HB11.out (below_alloc (Below.refl _ _) _)) (by have := HB11.out.size; show _ ≤ (w11.heap.push _).size; rw [Array.size_push]; omega) (Kd.R_alloc HO11.out _) (by show (w11.heap.push _)[w11.heap.size]? = _; rw [Array.getElem?_push_size]; rfl) (fun he => by obtain ⟨_, ho_⟩ := Kd.R_own HO11.out; have := own_lt ho_ _ he.symm; omega)).mono ?_; rintro e w13 ⟨v13, rfl, hO13, hb13⟩; rw [HZ.out] at hO13; have HO13 := Aside0.mk hO13; have HB13 := Aside0.mk hb13; clear hO13 hb13 HO11 HB11 hy_0 hy_1 hy_2 hy_3; (obtain ⟨Az, cz, rfl, hcz, hCz⟩ := Kd.R_reads HO13.out)) | (go_at_call 22; (with_reducible refine (impl_TreeOk.calls k Az cz _ false w13 (EnvW.below HEE.out HB13.out) hCz hcz HT2.out).mono ?_); rintro e w14 ⟨rfl, hb14⟩) | (go_at_call 37; (with_reducible refine (impl_cloneTree.calls A0 c0 l0 y _ (Kd.C_below HRR.out.1 (below_step HB13.out hb14)) HRR.out.2 HY.out.1).mono ?_); rintro e w15 ⟨v15, rfl, hO15, hb15⟩))
   exact bodyPost_ret (v := .tuple #[v15, .bool false]) (by simp [results, Tryd.results16, go_sem]) rfl ⟨_, rfl, Kd.R_lower hO15 (below_step HB13.out hb14).size, below_step (below_step HB13.out hb14) hb15⟩}}
  {
  rw [if_neg hneg] at hz
  by_cases hlt : i < (y.length : Int)
  case neg => rw [if_neg hlt] at hz; cases hz
  rw [if_pos hlt] at hz
  obtain rfl := Option.some.inj hz
  clear hz
  obtain ⟨j, rfl⟩ : ∃ j : Nat, i = j := ⟨i.toNat, by omega⟩
  rw [Int.toNat_natCast] at *
  have hjl : j < y.length := by omega
  have cn : decide ((j : Int) < 0) = false := decide_eq_false hneg
  have c1 : decide ((j : Int) < (y.length : Int)) = true := decide_eq_true hlt
  have c2 : decide (j < y.length) = true := decide_eq_true hjl
  have hsl : (y.set j (⟨a1_0, a1_1, a1_2, a1_3⟩ : S29)).length = y.length := List.length_set
  have HT2c := Aside0.mk (show ∀ (A : Option Addr) (c : Nat) (W : World), EnvW W → Kd.C k29 W A y.length (y.set j (⟨a1_0, a1_1, a1_2, a1_3⟩ : S29)) → y.length ≤ c → Calls Tryd.prog 22 #[.slice A y.length c] W fun e w' => e = .returned (.bool t2) ∧ Below W.heap.size W w' from fun A c W hE hC hc => by
   have h1 := impl_TreeOk.calls k A c (y.set j (⟨a1_0, a1_1, a1_2, a1_3⟩ : S29)) t2 W hE (by rw [hsl]; exact hC) (by rw [hsl]; exact hc) HT2.out
   rwa [hsl] at h1)
  clear HT2
  cases t2 with
  | true =>
   obtain ⟨rfl, rfl⟩ := Prod.mk.inj (Option.some.inj h)
   clear h
   go_enter Tryd.func16, Tryd.ntmps16
   go_wp2_with (first | (go_at_call 22; (with_reducible refine (impl_TreeOk.calls k A0 c0 l0 true _ HE1.out HR1.out.1 HR1.out.2 HT.out).mono ?_); rintro e w8 ⟨rfl, hb8⟩; clear HT) | (go_at_call 37; (with_reducible refine (impl_cloneTree.calls A0 c0 l0 y _ (Kd.C_below HR1.out.1 hb8) HR1.out.2 HY.out.1).mono ?_); rintro e w9 ⟨vy, rfl, hO9, hb9⟩; (obtain ⟨Ay, cy, rfl, hcy, hCy⟩ := Kd.R_reads hO9); have hqx := pw_cell_below hb9 (pw_cell_below hb8 HQ.out.1)) | (go_at_call 36; (with_reducible refine (impl_entryAt.calls Ay cy y a1_0 (j : Int) _ hCy hcy HY.out.2).mono ?_); rintro e w10 ⟨rfl, hb10⟩; (obtain ⟨g, cap_, hv, hbg, hgl, hcells⟩ := Kd.R_form hO9 (by omega)); (injection hv with hA _ hc2); subst hA; subst hc2; have HO10 := Aside0.mk (Kd.R_lower (Kd.R_below hO9 hb10) (show w.heap.size ≤ _ from by have := HB1.out.size; have := hb8.size; omega)); have HB10 := Aside0.mk (below_step (below_step (below_step HB1.out hb8) hb9) hb10); have HG := Aside0.mk (show w.heap.size ≤ g from by have := HB1.out.size; have := hb8.size; omega); have hy_0 := pw_cell_below hb10 hqx; have hy_1 := pw_cell_below hb10 (pw_cell_below hb9 (pw_cell_below hb8 HQ.out.2.1)); have hy_2 := pw_cell_below hb10 (pw_cell_below hb9 (pw_cell_below hb8 HQ.out.2.2.1)); have hy_3 := pw_cell_below hb10 (pw_cell_below hb9 (pw_cell_below hb8 HQ.out.2.2.2.1)); clear hqx hCy hO9 hb8 hb9 hb10 hcells hgl hbg; (obtain ⟨ce, hcl, hM, hcc, hfr⟩ := Kd.R_elem HO10.out z29 (j : Int) (by omega) (by omega)); (obtain rfl := k29_openM hM); have HP := Kd.R_seg HO10.out (j : Int) (by omega) (by omega) (seg := [.string a1_0, .int .i64 a1_1, .string a1_2, .bool a1_3]) (j := 0) hcl hcc (show 4 ≤ 4 from by decide) (x' := (⟨a1_0, a1_1, a1_2, a1_3⟩ : S29)) (k29_mkM _ _ _ (⟨a1_0, a1_1, a1_2, a1_3⟩ : S29)) (fun _ hk => hk); have hx_0 := hcc 0 _ rfl; have hx_1 := hcc 1 _ rfl; have hx_2 := hcc 2 _ rfl; have hx_3 := hcc 3 _ rfl; have hf_0 := hfr 0; have hf_1 := hfr 1; have hf_2 := hfr 2; have hf_3 := hfr 3; simp only [show (k29).sz = 4 from rfl, Nat.mul_one, Nat.add_zero, Int.toNat_natCast] at hx_0 hx_1 hx_2 hx_3 hf_0 hf_1 hf_2 hf_3; clear hcl hM hcc hfr) | ((with_reducible refine gate_store (t := 29) (p := 23) rfl ?_); refine store_event (t := 29) (p := 23) (v := ?vo_w13) (w1 := ((((w10.setCell ⟨g, j * 4, none⟩ (.string a1_0)).setCell ⟨g, j * 4 + 1, none⟩ (.int .i64 a1_1)).setCell ⟨g, j * 4 + 2, none⟩ (.string a1_2)).setCell ⟨g, j * 4 + 3, none⟩ (.bool a1_3))) ?hg ?ho ?hn ?hr ?_; (case ho => rfl); (case hg => rfl); (case hn => rfl); (case hr => first | (go_simp; done) | (go_simp; rfl)); intro w13 hw; have HO13 := Aside0.mk (show Kd.R k29 29 w13 w.heap.size (fun _ => True) (.slice (some ⟨g, 0, none⟩) y.length cy) (y.set j ⟨a1_0, a1_1, a1_2, a1_3⟩) from (by rw [hw]; exact HP.1)); have HB13 := Aside0.mk (by rw [hw]; exact below_set (below_set (below_set (below_set HB10.out HG.out) HG.out) HG.out) HG.out : Below w.heap.size w w13); clear HP HO10 HB10 hw hy_0 hy_1 hy_2 hy_3 hx_0 hx_1 hx_2 hx_3 hf_0 hf_1 hf_2 hf_3) | (go_at_call 22; (obtain ⟨Az, cz, hvz, hcz, hCz⟩ := Kd.R_reads HO13.out); (rw [hsl] at hvz hcz hCz); (injection hvz with hA_ _ hc_); subst hA_; subst hc_; refine (HT2c.out (some ⟨g, 0, none⟩) cy w13 (EnvW.below HEE.out HB13.out) hCz hcz).mono ?_; rintro e w14 ⟨rfl, hb14⟩))
   exact bodyPost_ret (v := .tuple #[.slice (some ⟨g, 0, none⟩) y.length cy, .bool true]) (by simp [results, Tryd.results16, go_sem]) rfl ⟨_, rfl, Kd.R_below HO13.out hb14, below_step HB13.out hb14⟩
  | false =>
   obtain ⟨rfl, rfl⟩ := Prod.mk.inj (Option.some.inj h)
   clear h
   go_enter Tryd.func16, Tryd.ntmps16
   go_wp2_with (first | (go_at_call 22; (with_reducible refine (impl_TreeOk.calls k A0 c0 l0 true _ HE1.out HR1.out.1 HR1.out.2 HT.out).mono ?_); rintro e w8 ⟨rfl, hb8⟩; clear HT) | (go_at_call 37; (with_reducible refine (impl_cloneTree.calls A0 c0 l0 y _ (Kd.C_below HR1.out.1 hb8) HR1.out.2 HY.out.1).mono ?_); rintro e w9 ⟨vy, rfl, hO9, hb9⟩; (obtain ⟨Ay, cy, rfl, hcy, hCy⟩ := Kd.R_reads hO9); have hqx := pw_cell_below hb9 (pw_cell_below hb8 HQ.out.1)) | (go_at_call 36; (with_reducible refine (impl_entryAt.calls Ay cy y a1_0 (j : Int) _ hCy hcy HY.out.2).mono ?_); rintro e w10 ⟨rfl, hb10⟩; (obtain ⟨g, cap_, hv, hbg, hgl, hcells⟩ := Kd.R_form hO9 (by omega)); (injection hv with hA _ hc2); subst hA; subst hc2; have HO10 := Aside0.mk (Kd.R_lower (Kd.R_below hO9 hb10) (show w.heap.size ≤ _ from by have := HB1.out.size; have := hb8.size; omega)); have HB10 := Aside0.mk (below_step (below_step (below_step HB1.out hb8) hb9) hb10); have HG := Aside0.mk (show w.heap.size ≤ g from by have := HB1.out.size; have := hb8.size; omega); have hy_0 := pw_cell_below hb10 hqx; have hy_1 := pw_cell_below hb10 (pw_cell_below hb9 (pw_cell_below hb8 HQ.out.2.1)); have hy_2 := pw_cell_below hb10 (pw_cell_below hb9 (pw_cell_below hb8 HQ.out.2.2.1)); have hy_3 := pw_cell_below hb10 (pw_cell_below hb9 (pw_cell_below hb8 HQ.out.2.2.2.1)); clear hqx hCy hO9 hb8 hb9 hb10 hcells hgl hbg; (obtain ⟨ce, hcl, hM, hcc, hfr⟩ := Kd.R_elem HO10.out z29 (j : Int) (by omega) (by omega)); (obtain rfl := k29_openM hM); have HP := Kd.R_seg HO10.out (j : Int) (by omega) (by omega) (seg := [.string a1_0, .int .i64 a1_1, .string a1_2, .bool a1_3]) (j := 0) hcl hcc (show 4 ≤ 4 from by decide) (x' := (⟨a1_0, a1_1, a1_2, a1_3⟩ : S29)) (k29_mkM _ _ _ (⟨a1_0, a1_1, a1_2, a1_3⟩ : S29)) (fun _ hk => hk); have hx_0 := hcc 0 _ rfl; have hx_1 := hcc 1 _ rfl; have hx_2 := hcc 2 _ rfl; have hx_3 := hcc 3 _ rfl; have hf_0 := hfr 0; have hf_1 := hfr 1; have hf_2 := hfr 2; have hf_3 := hfr 3; simp only [show (k29).sz = 4 from rfl, Nat.mul_one, Nat.add_zero, Int.toNat_natCast] at hx_0 hx_1 hx_2 hx_3 hf_0 hf_1 hf_2 hf_3; clear hcl hM hcc hfr) | ((with_reducible refine gate_store (t := 29) (p := 23) rfl ?_); refine store_event (t := 29) (p := 23) (v := ?vo_w13) (w1 := ((((w10.setCell ⟨g, j * 4, none⟩ (.string a1_0)).setCell ⟨g, j * 4 + 1, none⟩ (.int .i64 a1_1)).setCell ⟨g, j * 4 + 2, none⟩ (.string a1_2)).setCell ⟨g, j * 4 + 3, none⟩ (.bool a1_3))) ?hg ?ho ?hn ?hr ?_; (case ho => rfl); (case hg => rfl); (case hn => rfl); (case hr => first | (go_simp; done) | (go_simp; rfl)); intro w13 hw; have HO13 := Aside0.mk (show Kd.R k29 29 w13 w.heap.size (fun _ => True) (.slice (some ⟨g, 0, none⟩) y.length cy) (y.set j ⟨a1_0, a1_1, a1_2, a1_3⟩) from (by rw [hw]; exact HP.1)); have HB13 := Aside0.mk (by rw [hw]; exact below_set (below_set (below_set (below_set HB10.out HG.out) HG.out) HG.out) HG.out : Below w.heap.size w w13); clear HP HO10 HB10 hw hy_0 hy_1 hy_2 hy_3 hx_0 hx_1 hx_2 hx_3 hf_0 hf_1 hf_2 hf_3) | (go_at_call 22; (obtain ⟨Az, cz, hvz, hcz, hCz⟩ := Kd.R_reads HO13.out); (rw [hsl] at hvz hcz hCz); (injection hvz with hA_ _ hc_); subst hA_; subst hc_; refine (HT2c.out (some ⟨g, 0, none⟩) cy w13 (EnvW.below HEE.out HB13.out) hCz hcz).mono ?_; rintro e w14 ⟨rfl, hb14⟩) | (go_at_call 37; (with_reducible refine (impl_cloneTree.calls A0 c0 l0 y _ (Kd.C_below HRR.out.1 (below_step HB13.out hb14)) HRR.out.2 HY.out.1).mono ?_); rintro e w15 ⟨v15, rfl, hO15, hb15⟩))
   exact bodyPost_ret (v := .tuple #[v15, .bool false]) (by simp [results, Tryd.results16, go_sem]) rfl ⟨_, rfl, Kd.R_lower hO15 (below_step HB13.out hb14).size, below_step (below_step HB13.out hb14) hb15⟩
}
end Go.Proofs.YtjnmcgeahomkeaaDoor.P
end
