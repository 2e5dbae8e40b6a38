/- Texts of Lex, put together by program. -/
import Derived.Test.YthplhhodljpdcaaDoorMLex3

section
namespace Go.Proofs.YthplhhodljpdcaaDoor.P
open Go.RowKit Go.Proofs.YthplhhodljpdcaaDoorW.PrintWords Go.Proofs.YthplhhodljpdcaaDoorW.PrintLast Go.Proofs.YthplhhodljpdcaaDoorW.PrintMore Go.Proofs.YthplhhodljpdcaaDoorM
attribute [local go_sem] max2_int min2_int max_two min_two max_three min_three max_four min_four   -- for this text's walks alone
set_option linter.unusedVariables false
set_option linter.unusedSimpArgs false
mutual
def impl_one.j0 : Nat → ByteArray → Int → Int → Bool → Int → ByteArray → Int → Int → Option (Int × ByteArray × Int × Int × Int)
  | 0, _, _, _, _, _, _, _, _ => none
  | k + 1, x0, x1, x7, x24, x152000, x152001, x152002, x152003 => if x24 = true then (impl_one.l0 k x0 x1 x1 x152000 x152001 x152002 x152003) else ((impl_digit.f x7).bind fun t155 => (if t155 = true then (impl_one.l1 k x0 x1 x1 x152000 x152001 x152002 x152003) else (if x7 = 34 then (impl_one.l2 k x0 x1 ([] : List Int) (wrap64 (x1 + 1)) x152000 x152001 x152002 x152003) else (impl_one.l3 k x0 x1 signsL (signsL.length : Int) 0 x152000 x152001 x152002 x152003))))
def impl_one.l0 : Nat → ByteArray → Int → Int → Int → ByteArray → Int → Int → Option (Int × ByteArray × Int × Int × Int)
  | 0, _, _, _, _, _, _, _ => none
  | k + 1, x0, x1, x8, x152000, x152001, x152002, x152003 => if x8 < (x0.size : Int) then (if 0 ≤ x8 then ((impl_letter.f (bt x0 x8)).bind fun t153 => (if t153 = true then (impl_one.l0 k x0 x1 (wrap64 (x8 + 1)) x152000 x152001 x152002 x152003) else ((impl_digit.f (bt x0 x8)).bind fun t154 => (if t154 = true then (impl_one.l0 k x0 x1 (wrap64 (x8 + 1)) x152000 x152001 x152002 x152003) else (if (bt x0 x8) = 95 then (impl_one.l0 k x0 x1 (wrap64 (x8 + 1)) x152000 x152001 x152002 x152003) else (if (bt x0 x8) = 45 then (impl_one.l0 k x0 x1 (wrap64 (x8 + 1)) x152000 x152001 x152002 x152003) else (if (bt x0 x8) = 39 then (impl_one.l0 k x0 x1 (wrap64 (x8 + 1)) x152000 x152001 x152002 x152003) else (if (wrap64 (x8 - x1)) > 60 then (some (x152000, x152001, x152002, x152003, 0)) else (if 0 ≤ x1 then (if x1 ≤ x8 then (if x8 ≤ (x0.size : Int) then (some (1, x0.extract (x1 : Int).toNat (x8 : Int).toNat, x152002, x152003, wrap64 (x8 - x1))) else (none)) else (none)) else (none)))))))))) else (none)) else (if (wrap64 (x8 - x1)) > 60 then (some (x152000, x152001, x152002, x152003, 0)) else (if 0 ≤ x1 then (if x1 ≤ x8 then (if x8 ≤ (x0.size : Int) then (some (1, x0.extract (x1 : Int).toNat (x8 : Int).toNat, x152002, x152003, wrap64 (x8 - x1))) else (none)) else (none)) else (none)))
def impl_one.j3 : Nat → ByteArray → Int → Int → Int → ByteArray → Int → Int → Option (Int × ByteArray × Int × Int × Int)
  | 0, _, _, _, _, _, _, _ => none
  | k + 1, x0, x1, x9, x152000, x152001, x152002, x152003 => if 0 ≤ x1 then (if x1 ≤ x9 then (if x9 ≤ (x0.size : Int) then ((strings_TrimLeft.f (x0.extract (x1 : Int).toNat (x9 : Int).toNat) (⟨#[48]⟩ : ByteArray)).bind fun t157 => (if (t157.size : Int) > 16 then (some (x152000, x152001, x152002, x152003, 0)) else (if 1 + t157.size ≤ 9223372036854775807 then ((strconv_ParseInt.f ((⟨#[48]⟩ : ByteArray) ++ t157) 10 64).bind fun bt158 => (if bt158.1 > 9007199254740992 then (some (x152000, x152001, x152002, x152003, 0)) else (some (2, x152001, bt158.1, x152003, wrap64 (x9 - x1))))) else (none)))) else (none)) else (none)) else (none)
def impl_one.l1 : Nat → ByteArray → Int → Int → Int → ByteArray → Int → Int → Option (Int × ByteArray × Int × Int × Int)
  | 0, _, _, _, _, _, _, _ => none
  | k + 1, x0, x1, x9, x152000, x152001, x152002, x152003 => if x9 < (x0.size : Int) then (if 0 ≤ x9 then ((impl_digit.f (bt x0 x9)).bind fun t156 => (if t156 = true then (impl_one.l1 k x0 x1 (wrap64 (x9 + 1)) x152000 x152001 x152002 x152003) else (impl_one.j3 k x0 x1 x9 x152000 x152001 x152002 x152003))) else (none)) else (impl_one.j3 k x0 x1 x9 x152000 x152001 x152002 x152003)
def impl_one.l2 : Nat → ByteArray → Int → List Int → Int → Int → ByteArray → Int → Int → Option (Int × ByteArray × Int × Int × Int)
  | 0, _, _, _, _, _, _, _, _ => none
  | k + 1, x0, x1, x13, x14, x152000, x152001, x152002, x152003 => if x14 < (x0.size : Int) then (if 0 ≤ x14 then (if (bt x0 x14) = 34 then (if (x13.length : Int) > 4000 then (some (x152000, x152001, x152002, x152003, 0)) else (some (3, strOfNums x13, x152002, x152003, wrap64 ((wrap64 (x14 + 1)) - x1)))) else (if (bt x0 x14) = 92 then (if (wrap64 (x14 + 1)) = (x0.size : Int) then (some (x152000, x152001, x152002, x152003, 0)) else (if 0 ≤ (wrap64 (x14 + 1)) then (if (wrap64 (x14 + 1)) < (x0.size : Int) then ((strings_IndexByte.f (⟨#[110, 116, 34, 92]⟩ : ByteArray) (bt x0 (wrap64 (x14 + 1)))).bind fun t160 => (if t160 < 0 then (some (x152000, x152001, x152002, x152003, 0)) else (if 0 ≤ t160 then (if t160 < 4 then (if x13.length < 140737488355328 then (impl_one.l2 k x0 x1 (x13 ++ [bt (⟨#[10, 9, 34, 92]⟩ : ByteArray) t160]) (wrap64 ((wrap64 (x14 + 1)) + 1)) x152000 x152001 x152002 x152003) else (none)) else (none)) else (none)))) else (none)) else (none))) else (if (bt x0 x14) < 32 then (some (x152000, x152001, x152002, x152003, 0)) else (if x13.length < 140737488355328 then (impl_one.l2 k x0 x1 (x13 ++ [bt x0 x14]) (wrap64 (x14 + 1)) x152000 x152001 x152002 x152003) else (none))))) else (none)) else (some (x152000, x152001, x152002, x152003, 0))
def impl_one.l3 : Nat → ByteArray → Int → List ByteArray → Int → Int → Int → ByteArray → Int → Int → Option (Int × ByteArray × Int × Int × Int)
  | 0, _, _, _, _, _, _, _, _, _ => none
  | k + 1, x0, x1, x186, x187, x188, x152000, x152001, x152002, x152003 => if x188 < x187 then (if 0 ≤ x188 then (if x188 < (x186.length : Int) then (if 0 ≤ x1 then (if x1 ≤ (x0.size : Int) then ((strings_HasPrefix.f (x0.extract (x1 : Int).toNat x0.size) (rdOf ByteArray.empty x186 x188)).bind fun t168 => (if t168 = true then (some (4, rdOf ByteArray.empty x186 x188, x152002, x152003, ((rdOf ByteArray.empty x186 x188).size : Int))) else (impl_one.l3 k x0 x1 x186 x187 (wrap64 (x188 + 1)) x152000 x152001 x152002 x152003))) else (none)) else (none)) else (none)) else (none)) else (some (x152000, x152001, x152002, x152003, 0))
end
def impl_one.f (k : Nat) (a0 : ByteArray) (a1 : Int) : Option (Int × ByteArray × Int × Int × Int) := if 0 ≤ a1 then (if a1 < (a0.size : Int) then ((impl_letter.f (bt a0 a1)).bind fun t152 => (if t152 = true then (impl_one.j0 k a0 a1 (bt a0 a1) true 0 (⟨#[]⟩ : ByteArray) 0 a1) else (impl_one.j0 k a0 a1 (bt a0 a1) ((bt a0 a1) == 95) 0 (⟨#[]⟩ : ByteArray) 0 a1))) else (none)) else (none)
theorem impl_one.mono_l : ∀ k, (∀ y0 y1 y2 y3 y4 y5 y6 y7, LeO (impl_one.j0 k y0 y1 y2 y3 y4 y5 y6 y7) (impl_one.j0 (k + 1) y0 y1 y2 y3 y4 y5 y6 y7)) ∧ (∀ y0 y1 y2 y3 y4 y5 y6, LeO (impl_one.l0 k y0 y1 y2 y3 y4 y5 y6) (impl_one.l0 (k + 1) y0 y1 y2 y3 y4 y5 y6)) ∧ (∀ y0 y1 y2 y3 y4 y5 y6, LeO (impl_one.j3 k y0 y1 y2 y3 y4 y5 y6) (impl_one.j3 (k + 1) y0 y1 y2 y3 y4 y5 y6)) ∧ (∀ y0 y1 y2 y3 y4 y5 y6, LeO (impl_one.l1 k y0 y1 y2 y3 y4 y5 y6) (impl_one.l1 (k + 1) y0 y1 y2 y3 y4 y5 y6)) ∧ (∀ y0 y1 y2 y3 y4 y5 y6 y7, LeO (impl_one.l2 k y0 y1 y2 y3 y4 y5 y6 y7) (impl_one.l2 (k + 1) y0 y1 y2 y3 y4 y5 y6 y7)) ∧ (∀ y0 y1 y2 y3 y4 y5 y6 y7 y8, LeO (impl_one.l3 k y0 y1 y2 y3 y4 y5 y6 y7 y8) (impl_one.l3 (k + 1) y0 y1 y2 y3 y4 y5 y6 y7 y8))
  | 0 => ⟨fun _ _ _ _ _ _ _ _ r h => by simp [impl_one.j0] at h, fun _ _ _ _ _ _ _ r h => by simp [impl_one.l0] at h, fun _ _ _ _ _ _ _ r h => by simp [impl_one.j3] at h, fun _ _ _ _ _ _ _ r h => by simp [impl_one.l1] at h, fun _ _ _ _ _ _ _ _ r h => by simp [impl_one.l2] at h, fun _ _ _ _ _ _ _ _ _ r h => by simp [impl_one.l3] at h⟩
  | k + 1 => by
    obtain ⟨ih0, ih1, ih2, ih3, ih4, ih5⟩ := impl_one.mono_l k
    refine ⟨?_, ?_, ?_, ?_, ?_, ?_⟩
    · intro y0 y1 y2 y3 y4 y5 y6 y7
      unfold impl_one.j0
      repeat' first
      | (with_reducible exact ih0 _ _ _ _ _ _ _ _)
      | (with_reducible exact ih1 _ _ _ _ _ _ _)
      | (with_reducible exact ih2 _ _ _ _ _ _ _)
      | (with_reducible exact ih3 _ _ _ _ _ _ _)
      | (with_reducible exact ih4 _ _ _ _ _ _ _ _)
      | (with_reducible exact ih5 _ _ _ _ _ _ _ _ _)
      | (with_reducible exact LeO.refl _)
      | (with_reducible exact LeO.none _)
      | (with_reducible refine LeO.ite ?_ ?_)
      | (with_reducible refine LeO.bind ?_ (fun _ => ?_))
      | exact ih0 _ _ _ _ _ _ _ _
      | exact ih1 _ _ _ _ _ _ _
      | exact ih2 _ _ _ _ _ _ _
      | exact ih3 _ _ _ _ _ _ _
      | exact ih4 _ _ _ _ _ _ _ _
      | exact ih5 _ _ _ _ _ _ _ _ _
      | exact LeO.none _
      | refine LeO.ite ?_ ?_
      | refine LeO.bind ?_ (fun _ => ?_)
    · intro y0 y1 y2 y3 y4 y5 y6
      unfold impl_one.l0
      repeat' first
      | (with_reducible exact ih0 _ _ _ _ _ _ _ _)
      | (with_reducible exact ih1 _ _ _ _ _ _ _)
      | (with_reducible exact ih2 _ _ _ _ _ _ _)
      | (with_reducible exact ih3 _ _ _ _ _ _ _)
      | (with_reducible exact ih4 _ _ _ _ _ _ _ _)
      | (with_reducible exact ih5 _ _ _ _ _ _ _ _ _)
      | (with_reducible exact LeO.refl _)
      | (with_reducible exact LeO.none _)
      | (with_reducible refine LeO.ite ?_ ?_)
      | (with_reducible refine LeO.bind ?_ (fun _ => ?_))
      | exact ih0 _ _ _ _ _ _ _ _
      | exact ih1 _ _ _ _ _ _ _
      | exact ih2 _ _ _ _ _ _ _
      | exact ih3 _ _ _ _ _ _ _
      | exact ih4 _ _ _ _ _ _ _ _
      | exact ih5 _ _ _ _ _ _ _ _ _
      | exact LeO.none _
      | refine LeO.ite ?_ ?_
      | refine LeO.bind ?_ (fun _ => ?_)
    · intro y0 y1 y2 y3 y4 y5 y6
      unfold impl_one.j3
      repeat' first
      | (with_reducible exact ih0 _ _ _ _ _ _ _ _)
      | (with_reducible exact ih1 _ _ _ _ _ _ _)
      | (with_reducible exact ih2 _ _ _ _ _ _ _)
      | (with_reducible exact ih3 _ _ _ _ _ _ _)
      | (with_reducible exact ih4 _ _ _ _ _ _ _ _)
      | (with_reducible exact ih5 _ _ _ _ _ _ _ _ _)
      | (with_reducible exact LeO.refl _)
      | (with_reducible exact LeO.none _)
      | (with_reducible refine LeO.ite ?_ ?_)
      | (with_reducible refine LeO.bind ?_ (fun _ => ?_))
      | exact ih0 _ _ _ _ _ _ _ _
      | exact ih1 _ _ _ _ _ _ _
      | exact ih2 _ _ _ _ _ _ _
      | exact ih3 _ _ _ _ _ _ _
      | exact ih4 _ _ _ _ _ _ _ _
      | exact ih5 _ _ _ _ _ _ _ _ _
      | exact LeO.none _
      | refine LeO.ite ?_ ?_
      | refine LeO.bind ?_ (fun _ => ?_)
    · intro y0 y1 y2 y3 y4 y5 y6
      unfold impl_one.l1
      repeat' first
      | (with_reducible exact ih0 _ _ _ _ _ _ _ _)
      | (with_reducible exact ih1 _ _ _ _ _ _ _)
      | (with_reducible exact ih2 _ _ _ _ _ _ _)
      | (with_reducible exact ih3 _ _ _ _ _ _ _)
      | (with_reducible exact ih4 _ _ _ _ _ _ _ _)
      | (with_reducible exact ih5 _ _ _ _ _ _ _ _ _)
      | (with_reducible exact LeO.refl _)
      | (with_reducible exact LeO.none _)
      | (with_reducible refine LeO.ite ?_ ?_)
      | (with_reducible refine LeO.bind ?_ (fun _ => ?_))
      | exact ih0 _ _ _ _ _ _ _ _
      | exact ih1 _ _ _ _ _ _ _
      | exact ih2 _ _ _ _ _ _ _
      | exact ih3 _ _ _ _ _ _ _
      | exact ih4 _ _ _ _ _ _ _ _
      | exact ih5 _ _ _ _ _ _ _ _ _
      | exact LeO.none _
      | refine LeO.ite ?_ ?_
      | refine LeO.bind ?_ (fun _ => ?_)
    · intro y0 y1 y2 y3 y4 y5 y6 y7
      unfold impl_one.l2
      repeat' first
      | (with_reducible exact ih0 _ _ _ _ _ _ _ _)
      | (with_reducible exact ih1 _ _ _ _ _ _ _)
      | (with_reducible exact ih2 _ _ _ _ _ _ _)
      | (with_reducible exact ih3 _ _ _ _ _ _ _)
      | (with_reducible exact ih4 _ _ _ _ _ _ _ _)
      | (with_reducible exact ih5 _ _ _ _ _ _ _ _ _)
      | (with_reducible exact LeO.refl _)
      | (with_reducible exact LeO.none _)
      | (with_reducible refine LeO.ite ?_ ?_)
      | (with_reducible refine LeO.bind ?_ (fun _ => ?_))
      | exact ih0 _ _ _ _ _ _ _ _
      | exact ih1 _ _ _ _ _ _ _
      | exact ih2 _ _ _ _ _ _ _
      | exact ih3 _ _ _ _ _ _ _
      | exact ih4 _ _ _ _ _ _ _ _
      | exact ih5 _ _ _ _ _ _ _ _ _
      | exact LeO.none _
      | refine LeO.ite ?_ ?_
      | refine LeO.bind ?_ (fun _ => ?_)
    · intro y0 y1 y2 y3 y4 y5 y6 y7 y8
      unfold impl_one.l3
      repeat' first
      | (with_reducible exact ih0 _ _ _ _ _ _ _ _)
      | (with_reducible exact ih1 _ _ _ _ _ _ _)
      | (with_reducible exact ih2 _ _ _ _ _ _ _)
      | (with_reducible exact ih3 _ _ _ _ _ _ _)
      | (with_reducible exact ih4 _ _ _ _ _ _ _ _)
      | (with_reducible exact ih5 _ _ _ _ _ _ _ _ _)
      | (with_reducible exact LeO.refl _)
      | (with_reducible exact LeO.none _)
      | (with_reducible refine LeO.ite ?_ ?_)
      | (with_reducible refine LeO.bind ?_ (fun _ => ?_))
      | exact ih0 _ _ _ _ _ _ _ _
      | exact ih1 _ _ _ _ _ _ _
      | exact ih2 _ _ _ _ _ _ _
      | exact ih3 _ _ _ _ _ _ _
      | exact ih4 _ _ _ _ _ _ _ _
      | exact ih5 _ _ _ _ _ _ _ _ _
      | exact LeO.none _
      | refine LeO.ite ?_ ?_
      | refine LeO.bind ?_ (fun _ => ?_)
theorem impl_one.mono : ∀ a0 a1 k, LeO (impl_one.f k a0 a1) (impl_one.f (k + 1) a0 a1) := by
  intro a0 a1 k
  obtain ⟨ih0, ih1, ih2, ih3, ih4, ih5⟩ := impl_one.mono_l k
  unfold impl_one.f
  repeat' first
      | (with_reducible exact ih0 _ _ _ _ _ _ _ _)
      | (with_reducible exact ih1 _ _ _ _ _ _ _)
      | (with_reducible exact ih2 _ _ _ _ _ _ _)
      | (with_reducible exact ih3 _ _ _ _ _ _ _)
      | (with_reducible exact ih4 _ _ _ _ _ _ _ _)
      | (with_reducible exact ih5 _ _ _ _ _ _ _ _ _)
      | (with_reducible exact LeO.refl _)
      | (with_reducible exact LeO.none _)
      | (with_reducible refine LeO.ite ?_ ?_)
      | (with_reducible refine LeO.bind ?_ (fun _ => ?_))
      | exact ih0 _ _ _ _ _ _ _ _
      | exact ih1 _ _ _ _ _ _ _
      | exact ih2 _ _ _ _ _ _ _
      | exact ih3 _ _ _ _ _ _ _
      | exact ih4 _ _ _ _ _ _ _ _
      | exact ih5 _ _ _ _ _ _ _ _ _
      | exact LeO.none _
      | refine LeO.ite ?_ ?_
      | refine LeO.bind ?_ (fun _ => ?_)
def impl_one.T9 : Bool × List (List Nat × List Nat) := (true, [([], []), ([], []), ([], []), ([0, 1, 2], [0, 1, 2]), ([], []), ([4], [4]), ([0, 1, 2, 3, 4, 5], []), ([6, 3, 5, 0, 1, 2, 3, 4, 5], [3, 6])])
def impl_one.B9 : List Nat := [0, 0, 0, 7, 0, 16, 63, 127]
theorem impl_one.tab9 : rtab .any (opsOf Tryd.f11 9) = impl_one.T9 := by kernel_rfl
theorem impl_one.bits9 : waitsOk impl_one.T9.2 impl_one.B9 = true := by kernel_rfl
set_option maxHeartbeats 8000000 in
set_option maxRecDepth 100000 in
theorem impl_one.calls (k : Nat) (a0 : ByteArray) (a1 : Int) (r1 : Int) (r2 : ByteArray) (r3 : Int) (r4 : Int) (r5 : Int) (w : World) (hE : EnvW w) (h : impl_one.f k a0 a1 = some (r1, r2, r3, r4, r5)) :
    Calls Tryd.prog 11 #[.string a0, .int .i64 a1] w fun e w' => e = .returned (.tuple #[.agg #[.int .i64 r1, .string r2, .int .i64 r3, .int .i64 r4], .int .i64 r5]) ∧ Below w.heap.size w w' := by
  have hu30 := Tryd.underlying30
  obtain ⟨A900, c900, hg900, hc900, hr900⟩ := EnvW.glob900 hE
  have HG900 := Aside0.mk hg900
  have HC900 := Aside0.mk hc900
  have HR900 := Aside0.mk hr900
  clear hg900 hc900 hr900
  have HE := Aside0.mk hE
  clear hE
  have HB := Aside0.mk (Below.refl w.heap.size w)
  have H : (if 0 ≤ a1 then (if a1 < (a0.size : Int) then ((impl_letter.f (bt a0 a1)).bind fun t152 => (if t152 = true then (impl_one.j0 k a0 a1 (bt a0 a1) true 0 (⟨#[]⟩ : ByteArray) 0 a1) else (impl_one.j0 k a0 a1 (bt a0 a1) ((bt a0 a1) == 95) 0 (⟨#[]⟩ : ByteArray) 0 a1))) else (none)) else (none)) = some (r1, r2, r3, r4, r5) := h
  clear h
  by_cases c3 : 0 ≤ a1
  · rw [if_pos c3] at H
    have c3b0 : decide (0 ≤ a1) = true := decide_eq_true c3
    clear c3
    by_cases c4 : a1 < (a0.size : Int)
    · rw [if_pos c4] at H
      have c4b0 : decide (a1 < (a0.size : Int)) = true := decide_eq_true c4
      clear c4
      have HC6 := Aside0.mk H
      clear H
      go_enter Tryd.func11, Tryd.ntmps11
      go_upto_region 3 with (first | ((with_reducible refine gate_dst (N := 4) rfl ?_); refine box_event ?hg (N := 4) ?hd (cs := #[.int .i64 0, .string (⟨#[]⟩ : ByteArray), .int .i64 0, .int .i64 0]) (t := 30) ?hr ?_; (case hd => rfl); (case hg => rfl); (case hr => first | (go_simp; done) | (go_simp; rfl)); intro gb150 hg w7 hbox hb; have n0_ := Aside0.mk (below_step (by repeat (first | (with_reducible first | exact HB.out | apply below_alloc | apply pw_below_drewN | apply below_drew1) | exact HB.out)) hb); have n1_ := Aside0.mk (hbox); have n2_ := Aside0.mk ((by rw [hg]; exact (below_size (by repeat (first | (with_reducible first | exact HB.out | apply below_alloc | apply pw_below_drewN | apply below_drew1) | exact HB.out))) : w.heap.size ≤ gb150)); have n3_ := Aside0.mk ((by rw [hg]; exact (below_size (by repeat (first | (with_reducible first | exact HB.out | apply below_alloc | apply pw_below_drewN | apply below_drew1) | exact HB.out))) : w.heap.size ≤ gb150)); clear HB; have HB := n0_; have BK150 := n1_; have GW150 := n2_; have GE150 := n3_; clear n0_ n1_ n2_ n3_; clear hb hbox hg) | ((with_reducible refine gate_dst (N := 6) rfl ?_); refine box_event ?hg (N := 6) ?hd (cs := #[.int .i64 0, .string (⟨#[]⟩ : ByteArray), .int .i64 0, .int .i64 0]) (t := 30) ?hr ?_; (case hd => rfl); (case hg => rfl); (case hr => first | (go_simp; done) | (go_simp; rfl)); intro gb151 hg w8 hbox hb; have n0_ := Aside0.mk (blk_below (g := gb150) (o := .cells #[.int .i64 0, .string (⟨#[]⟩ : ByteArray), .int .i64 0, .int .i64 0] 30 (0, 0)) (by (with_reducible repeat (first | refine blk_drewN ?_ _ | refine blk_drew ?_ | refine blk_alloc ?_ _)); exact BK150.out) hb); have n1_ := Aside0.mk (below_step (by repeat (first | (with_reducible first | exact HB.out | apply below_alloc | apply pw_below_drewN | apply below_drew1 | refine below_set ?_ GE150.out) | exact HB.out)) hb); have n2_ := Aside0.mk (hbox); have n3_ := Aside0.mk ((by rw [hg]; exact (below_size (by repeat (first | (with_reducible first | exact HB.out | apply below_alloc | apply pw_below_drewN | apply below_drew1 | refine below_set ?_ GE150.out) | exact HB.out))) : w.heap.size ≤ gb151)); have n4_ := Aside0.mk ((by rw [hg]; exact (below_size (by repeat (first | (with_reducible first | exact HB.out | apply below_alloc | apply pw_below_drewN | apply below_drew1 | refine below_set ?_ GE150.out) | exact HB.out))) : w.heap.size ≤ gb151)); have n5_ := Aside0.mk ((by rw [hg]; exact Nat.ne_of_lt (blk_lt (g := gb150) (o := .cells #[.int .i64 0, .string (⟨#[]⟩ : ByteArray), .int .i64 0, .int .i64 0] 30 (0, 0)) (by (with_reducible repeat (first | refine blk_drewN ?_ _ | refine blk_drew ?_ | refine blk_alloc ?_ _)); exact BK150.out)) : gb150 ≠ gb151)); have n6_ := Aside0.mk ((by rw [hg]; exact Nat.ne_of_gt (blk_lt (g := gb150) (o := .cells #[.int .i64 0, .string (⟨#[]⟩ : ByteArray), .int .i64 0, .int .i64 0] 30 (0, 0)) (by (with_reducible repeat (first | refine blk_drewN ?_ _ | refine blk_drew ?_ | refine blk_alloc ?_ _)); exact BK150.out)) : gb151 ≠ gb150)); clear BK150; clear HB; have BK150 := n0_; have HB := n1_; have BK151 := n2_; have GW151 := n3_; have GE151 := n4_; have NB150_151 := n5_; have NB151_150 := n6_; clear n0_ n1_ n2_ n3_ n4_ n5_ n6_; clear hb hbox hg; have hnb9 := NB151_150.out; have hnc9 := NB150_151.out; have hcz10_0 : w8.cell? ⟨gb151, 0, none⟩ = some (.int .i64 0) := (blk_cell BK151.out 0).trans rfl; have hcz10_1 : w8.cell? ⟨gb151, 1, none⟩ = some (.string (⟨#[]⟩ : ByteArray)) := (blk_cell BK151.out 1).trans rfl; have hcz10_2 : w8.cell? ⟨gb151, 2, none⟩ = some (.int .i64 0) := (blk_cell BK151.out 2).trans rfl; have hcz10_3 : w8.cell? ⟨gb151, 3, none⟩ = some (.int .i64 0) := (blk_cell BK151.out 3).trans rfl; have hfz10_0 := blk_frozen BK151.out 0; have hfz10_1 := blk_frozen BK151.out 1; have hfz10_2 := blk_frozen BK151.out 2; have hfz10_3 := blk_frozen BK151.out 3; have p5 : 0 ≤ (a1 : Int) := of_decide_eq_true (by first | (with_reducible assumption) | assumption); have q5 : a1 < (a0.size : Int) := of_decide_eq_true (by first | (with_reducible assumption) | assumption); have hx5 := bt_at a0 a1; replace p5 := eq_true p5; replace q5 := eq_true q5))
      (try simp only [Act.put, List.setIfInBounds_toArray, List.set_cons_zero, List.set_cons_succ])
      go_cut [24] (fun v24 wc => ∃ (kq : Nat) (x24_5 : Bool), v24 = .bool x24_5 ∧ Aside0 (impl_one.j0 kq a0 a1 (bt a0 a1) x24_5 0 (⟨#[]⟩ : ByteArray) 0 a1 = some (r1, r2, r3, r4, r5)) ∧ Aside0 (kq ≤ k) ∧ Aside0 (wc.heap[gb150]? = some (.cells #[.int .i64 0, .string (⟨#[]⟩ : ByteArray), .int .i64 0, .int .i64 0] 30 (0, 0))) ∧ Aside0 (wc.heap[gb151]? = some (.cells #[.int .i64 0, .string (⟨#[]⟩ : ByteArray), .int .i64 0, .int .i64 a1] 30 (0, 0))) ∧ Aside0 (Below w.heap.size w wc))
      case first =>
        have H := HC6.out
        clear HC6
        replace H := Option.bind_eq_some_iff.mp H
        obtain ⟨t152, A110, H⟩ := H
        replace H : (if t152 = true then (impl_one.j0 k a0 a1 (bt a0 a1) true 0 (⟨#[]⟩ : ByteArray) 0 a1) else (impl_one.j0 k a0 a1 (bt a0 a1) ((bt a0 a1) == 95) 0 (⟨#[]⟩ : ByteArray) 0 a1)) = some (r1, r2, r3, r4, r5) := H
        have A11 := Aside0.mk A110
        clear A110
        by_cases c12 : t152 = true
        · subst c12
          have H1 : (impl_one.j0 k a0 a1 (bt a0 a1) true 0 (⟨#[]⟩ : ByteArray) 0 a1) = some (r1, r2, r3, r4, r5) := by rw [if_pos rfl] at H; exact H
          clear H
          have H := H1
          clear H1
          have H' := Aside0.mk H
          clear H
          go_wp2_with (first | ((with_reducible refine gate_callee (f := 19) rfl ?_); refine goesL_ (some 26) rfl rfl Tryd.func19 (by kernel_rfl) rfl #[.int .u8 (bt a0 a1)] rfl (by (try simp only [List.map_toArray, List.map_cons, List.map_nil]); first | done | rfl | (simp only [List.length_drop, List.length_take]; rfl)) ?_; (with_reducible refine (impl_letter.calls (bt a0 a1) true _ A11.out).mono ?_); rintro e w' ⟨rfl, ⟨nd, rfl⟩⟩; refine ⟨_, rfl, ?_⟩))
          go_meet
          case rel => exact ⟨_, (true), (by first | rfl | (simp; done) | (simp [*]; done)), H', ⟨by first | omega | exact Nat.le_refl _⟩, ⟨by (with_reducible repeat (first | refine blk_drewN ?_ _ | refine blk_drew ?_ | refine blk_alloc ?_ _)); refine blk_far ?_ NB150_151.out _; (with_reducible repeat (first | refine blk_drewN ?_ _ | refine blk_drew ?_ | refine blk_alloc ?_ _)); refine blk_far ?_ NB150_151.out _; (with_reducible repeat (first | refine blk_drewN ?_ _ | refine blk_drew ?_ | refine blk_alloc ?_ _)); refine blk_far ?_ NB150_151.out _; (with_reducible repeat (first | refine blk_drewN ?_ _ | refine blk_drew ?_ | refine blk_alloc ?_ _)); refine blk_far ?_ NB150_151.out _; (with_reducible repeat (first | refine blk_drewN ?_ _ | refine blk_drew ?_ | refine blk_alloc ?_ _)); exact BK150.out⟩, ⟨by (with_reducible repeat (first | refine blk_drewN ?_ _ | refine blk_drew ?_ | refine blk_alloc ?_ _)); refine blk_put (cs := #[.int .i64 0, .string (⟨#[]⟩ : ByteArray), .int .i64 0, .int .i64 0]) ?_ 3 _ rfl; (with_reducible repeat (first | refine blk_drewN ?_ _ | refine blk_drew ?_ | refine blk_alloc ?_ _)); refine blk_put (cs := #[.int .i64 0, .string (⟨#[]⟩ : ByteArray), .int .i64 0, .int .i64 0]) ?_ 2 _ rfl; (with_reducible repeat (first | refine blk_drewN ?_ _ | refine blk_drew ?_ | refine blk_alloc ?_ _)); refine blk_put (cs := #[.int .i64 0, .string (⟨#[]⟩ : ByteArray), .int .i64 0, .int .i64 0]) ?_ 1 _ rfl; (with_reducible repeat (first | refine blk_drewN ?_ _ | refine blk_drew ?_ | refine blk_alloc ?_ _)); refine blk_put (cs := #[.int .i64 0, .string (⟨#[]⟩ : ByteArray), .int .i64 0, .int .i64 0]) ?_ 0 _ rfl; (with_reducible repeat (first | refine blk_drewN ?_ _ | refine blk_drew ?_ | refine blk_alloc ?_ _)); exact BK151.out⟩, ⟨by repeat (first | (with_reducible first | exact HB.out | apply below_alloc | apply pw_below_drewN | apply below_drew1 | refine below_set ?_ GE150.out | refine below_set ?_ GE151.out) | exact HB.out)⟩⟩
        · replace c12 := Bool.eq_false_iff.mpr c12
          subst c12
          have H1 : (impl_one.j0 k a0 a1 (bt a0 a1) ((bt a0 a1) == 95) 0 (⟨#[]⟩ : ByteArray) 0 a1) = some (r1, r2, r3, r4, r5) := by rw [if_neg (show ¬ (false = true) by decide)] at H; exact H
          clear H
          have H := H1
          clear H1
          have H' := Aside0.mk H
          clear H
          go_wp2_with (first | ((with_reducible refine gate_callee (f := 19) rfl ?_); refine goesL_ (some 26) rfl rfl Tryd.func19 (by kernel_rfl) rfl #[.int .u8 (bt a0 a1)] rfl (by (try simp only [List.map_toArray, List.map_cons, List.map_nil]); first | done | rfl | (simp only [List.length_drop, List.length_take]; rfl)) ?_; (with_reducible refine (impl_letter.calls (bt a0 a1) false _ A11.out).mono ?_); rintro e w' ⟨rfl, ⟨nd, rfl⟩⟩; refine ⟨_, rfl, ?_⟩))
          go_meet
          case rel => exact ⟨_, (((bt a0 a1) == 95)), (by first | rfl | (simp; done) | (simp [*]; done)), H', ⟨by first | omega | exact Nat.le_refl _⟩, ⟨by (with_reducible repeat (first | refine blk_drewN ?_ _ | refine blk_drew ?_ | refine blk_alloc ?_ _)); refine blk_far ?_ NB150_151.out _; (with_reducible repeat (first | refine blk_drewN ?_ _ | refine blk_drew ?_ | refine blk_alloc ?_ _)); refine blk_far ?_ NB150_151.out _; (with_reducible repeat (first | refine blk_drewN ?_ _ | refine blk_drew ?_ | refine blk_alloc ?_ _)); refine blk_far ?_ NB150_151.out _; (with_reducible repeat (first | refine blk_drewN ?_ _ | refine blk_drew ?_ | refine blk_alloc ?_ _)); refine blk_far ?_ NB150_151.out _; (with_reducible repeat (first | refine blk_drewN ?_ _ | refine blk_drew ?_ | refine blk_alloc ?_ _)); exact BK150.out⟩, ⟨by (with_reducible repeat (first | refine blk_drewN ?_ _ | refine blk_drew ?_ | refine blk_alloc ?_ _)); refine blk_put (cs := #[.int .i64 0, .string (⟨#[]⟩ : ByteArray), .int .i64 0, .int .i64 0]) ?_ 3 _ rfl; (with_reducible repeat (first | refine blk_drewN ?_ _ | refine blk_drew ?_ | refine blk_alloc ?_ _)); refine blk_put (cs := #[.int .i64 0, .string (⟨#[]⟩ : ByteArray), .int .i64 0, .int .i64 0]) ?_ 2 _ rfl; (with_reducible repeat (first | refine blk_drewN ?_ _ | refine blk_drew ?_ | refine blk_alloc ?_ _)); refine blk_put (cs := #[.int .i64 0, .string (⟨#[]⟩ : ByteArray), .int .i64 0, .int .i64 0]) ?_ 1 _ rfl; (with_reducible repeat (first | refine blk_drewN ?_ _ | refine blk_drew ?_ | refine blk_alloc ?_ _)); refine blk_put (cs := #[.int .i64 0, .string (⟨#[]⟩ : ByteArray), .int .i64 0, .int .i64 0]) ?_ 0 _ rfl; (with_reducible repeat (first | refine blk_drewN ?_ _ | refine blk_drew ?_ | refine blk_alloc ?_ _)); exact BK151.out⟩, ⟨by repeat (first | (with_reducible first | exact HB.out | apply below_alloc | apply pw_below_drewN | apply below_drew1 | refine below_set ?_ GE150.out | refine below_set ?_ GE151.out) | exact HB.out)⟩⟩
      case rest =>
        clear HC6
        try clear c1
        try clear p2
        try clear c3
        try clear c3b0
        try clear c4
        try clear c4b0
        try clear p5
        try clear q5
        try clear hx5
        try clear c9
        try clear c11
        try clear c12
        try clear hcz10_0
        try clear hcz10_1
        try clear hcz10_2
        try clear hcz10_3
        try clear hfz10_0
        try clear hfz10_1
        try clear hfz10_2
        try clear hfz10_3
        try clear p5
        try clear q5
        obtain ⟨kq, x24_5, rfl, HA, HJ5, BK150, BK151, HB⟩ := hcut
        cases kq with
        | zero => exact absurd HA.out (by simp [impl_one.j0])
        | succ kj5 =>
          have H := HA.out
          clear HA
          simp only [impl_one.j0] at H
          by_cases c13 : x24_5 = true
          · subst c13
            have H1 : (impl_one.l0 kj5 a0 a1 a1 0 (⟨#[]⟩ : ByteArray) 0 a1) = some (r1, r2, r3, r4, r5) := by rw [if_pos rfl] at H; exact H
            clear H
            have H := H1
            clear H1
            have H' := Aside0.mk H
            clear H
            go_wp2
            go_loopg [8] kj5 (fun kq v8 w' => ∃ (x8_2 : Int), v8 = .int .i64 x8_2 ∧ Aside0 (impl_one.l0 kq a0 a1 x8_2 0 (⟨#[]⟩ : ByteArray) 0 a1 = some (r1, r2, r3, r4, r5)) ∧ Aside0 (kq ≤ kj5) ∧ Aside0 (w'.heap[gb150]? = some (.cells #[.int .i64 0, .string (⟨#[]⟩ : ByteArray), .int .i64 0, .int .i64 0] 30 (0, 0))) ∧ Aside0 (w'.heap[gb151]? = some (.cells #[.int .i64 0, .string (⟨#[]⟩ : ByteArray), .int .i64 0, .int .i64 a1] 30 (0, 0))) ∧ Aside0 (Below w.heap.size w w'))
            case atStart => exact ⟨(a1), (by first | rfl | (simp; done) | (simp [*]; done)), H', ⟨Nat.le_refl _⟩, ⟨by (with_reducible repeat (first | refine blk_drewN ?_ _ | refine blk_drew ?_ | refine blk_alloc ?_ _)); exact BK150.out⟩, ⟨by (with_reducible repeat (first | refine blk_drewN ?_ _ | refine blk_drew ?_ | refine blk_alloc ?_ _)); exact BK151.out⟩, ⟨by repeat (first | (with_reducible first | exact HB.out | apply below_alloc | apply pw_below_drewN | apply below_drew1 | refine below_set ?_ GE150.out | refine below_set ?_ GE151.out) | exact HB.out)⟩⟩
            case round =>
              clear H'
              try clear c1
              try clear p2
              try clear c3
              try clear c3b0
              try clear c4
              try clear c4b0
              try clear p5
              try clear q5
              try clear hx5
              try clear c9
              try clear c11
              try clear c12
              try clear c13
              try clear hcz10_0
              try clear hcz10_1
              try clear hcz10_2
              try clear hcz10_3
              try clear hfz10_0
              try clear hfz10_1
              try clear hfz10_2
              try clear hfz10_3
              try clear p2
              try clear p5
              try clear q5
              obtain ⟨x8_2, rfl, HA, HK2, BK150, BK151, HB⟩ := hrel
              cases gk with
              | zero => exact absurd HA.out (by simp [impl_one.l0])
              | succ k2 =>
                have H := HA.out
                clear HA
                simp only [impl_one.l0] at H
                by_cases c14 : x8_2 < (a0.size : Int)
                · rw [if_pos c14] at H
                  have c14b0 : decide (x8_2 < (a0.size : Int)) = true := decide_eq_true c14
                  clear c14
                  by_cases c15 : 0 ≤ x8_2
                  · rw [if_pos c15] at H
                    have c15b0 : decide (0 ≤ x8_2) = true := decide_eq_true c15
                    clear c15
                    replace H := Option.bind_eq_some_iff.mp H
                    obtain ⟨t153, A170, H⟩ := H
                    replace H : (if t153 = true then (impl_one.l0 k2 a0 a1 (wrap64 (x8_2 + 1)) 0 (⟨#[]⟩ : ByteArray) 0 a1) else ((impl_digit.f (bt a0 x8_2)).bind fun t154 => (if t154 = true then (impl_one.l0 k2 a0 a1 (wrap64 (x8_2 + 1)) 0 (⟨#[]⟩ : ByteArray) 0 a1) else (if (bt a0 x8_2) = 95 then (impl_one.l0 k2 a0 a1 (wrap64 (x8_2 + 1)) 0 (⟨#[]⟩ : ByteArray) 0 a1) else (if (bt a0 x8_2) = 45 then (impl_one.l0 k2 a0 a1 (wrap64 (x8_2 + 1)) 0 (⟨#[]⟩ : ByteArray) 0 a1) else (if (bt a0 x8_2) = 39 then (impl_one.l0 k2 a0 a1 (wrap64 (x8_2 + 1)) 0 (⟨#[]⟩ : ByteArray) 0 a1) else (if (wrap64 (x8_2 - a1)) > 60 then (some (0, (⟨#[]⟩ : ByteArray), 0, a1, 0)) else (if 0 ≤ a1 then (if a1 ≤ x8_2 then (if x8_2 ≤ (a0.size : Int) then (some (1, a0.extract (a1 : Int).toNat (x8_2 : Int).toNat, 0, a1, wrap64 (x8_2 - a1))) else (none)) else (none)) else (none))))))))) = some (r1, r2, r3, r4, r5) := H
                    have A17 := Aside0.mk A170
                    clear A170
                    by_cases c18 : t153 = true
                    · subst c18
                      have H1 : (impl_one.l0 k2 a0 a1 (wrap64 (x8_2 + 1)) 0 (⟨#[]⟩ : ByteArray) 0 a1) = some (r1, r2, r3, r4, r5) := by rw [if_pos rfl] at H; exact H
                      clear H
                      have H := H1
                      clear H1
                      have H' := Aside0.mk H
                      clear H
                      have p16 : 0 ≤ (x8_2 : Int) := of_decide_eq_true (by first | (with_reducible assumption) | assumption)
                      have q16 : x8_2 < (a0.size : Int) := of_decide_eq_true (by first | (with_reducible assumption) | assumption)
                      have hx16 := bt_at a0 x8_2
                      replace p16 := eq_true p16
                      replace q16 := eq_true q16
                      go_wp2_with (first | (go_at_call 19; (with_reducible refine (impl_letter.calls (bt a0 x8_2) true _ A17.out).mono ?_); rintro e w' ⟨rfl, ⟨nd, rfl⟩⟩))
                      go_roundg k2
                      case measure => have := HJ5.out; have := HK2.out; omega
                      case rel => exact ⟨(wrap64 (x8_2 + 1)), (by first | rfl | (simp; done) | (simp [*]; done)), H', ⟨by have := HJ5.out; have := HK2.out; omega⟩, ⟨by (with_reducible repeat (first | refine blk_drewN ?_ _ | refine blk_drew ?_ | refine blk_alloc ?_ _)); exact BK150.out⟩, ⟨by (with_reducible repeat (first | refine blk_drewN ?_ _ | refine blk_drew ?_ | refine blk_alloc ?_ _)); exact BK151.out⟩, ⟨by repeat (first | (with_reducible first | exact HB.out | apply below_alloc | apply pw_below_drewN | apply below_drew1 | refine below_set ?_ GE150.out | refine below_set ?_ GE151.out) | exact HB.out)⟩⟩
                    · replace c18 := Bool.eq_false_iff.mpr c18
                      subst c18
                      have H1 : ((impl_digit.f (bt a0 x8_2)).bind fun t154 => (if t154 = true then (impl_one.l0 k2 a0 a1 (wrap64 (x8_2 + 1)) 0 (⟨#[]⟩ : ByteArray) 0 a1) else (if (bt a0 x8_2) = 95 then (impl_one.l0 k2 a0 a1 (wrap64 (x8_2 + 1)) 0 (⟨#[]⟩ : ByteArray) 0 a1) else (if (bt a0 x8_2) = 45 then (impl_one.l0 k2 a0 a1 (wrap64 (x8_2 + 1)) 0 (⟨#[]⟩ : ByteArray) 0 a1) else (if (bt a0 x8_2) = 39 then (impl_one.l0 k2 a0 a1 (wrap64 (x8_2 + 1)) 0 (⟨#[]⟩ : ByteArray) 0 a1) else (if (wrap64 (x8_2 - a1)) > 60 then (some (0, (⟨#[]⟩ : ByteArray), 0, a1, 0)) else (if 0 ≤ a1 then (if a1 ≤ x8_2 then (if x8_2 ≤ (a0.size : Int) then (some (1, a0.extract (a1 : Int).toNat (x8_2 : Int).toNat, 0, a1, wrap64 (x8_2 - a1))) else (none)) else (none)) else (none)))))))) = some (r1, r2, r3, r4, r5) := by rw [if_neg (show ¬ (false = true) by decide)] at H; exact H
                      clear H
                      have H := H1
                      clear H1
                      replace H := Option.bind_eq_some_iff.mp H
                      obtain ⟨t154, A200, H⟩ := H
                      replace H : (if t154 = true then (impl_one.l0 k2 a0 a1 (wrap64 (x8_2 + 1)) 0 (⟨#[]⟩ : ByteArray) 0 a1) else (if (bt a0 x8_2) = 95 then (impl_one.l0 k2 a0 a1 (wrap64 (x8_2 + 1)) 0 (⟨#[]⟩ : ByteArray) 0 a1) else (if (bt a0 x8_2) = 45 then (impl_one.l0 k2 a0 a1 (wrap64 (x8_2 + 1)) 0 (⟨#[]⟩ : ByteArray) 0 a1) else (if (bt a0 x8_2) = 39 then (impl_one.l0 k2 a0 a1 (wrap64 (x8_2 + 1)) 0 (⟨#[]⟩ : ByteArray) 0 a1) else (if (wrap64 (x8_2 - a1)) > 60 then (some (0, (⟨#[]⟩ : ByteArray), 0, a1, 0)) else (if 0 ≤ a1 then (if a1 ≤ x8_2 then (if x8_2 ≤ (a0.size : Int) then (some (1, a0.extract (a1 : Int).toNat (x8_2 : Int).toNat, 0, a1, wrap64 (x8_2 - a1))) else (none)) else (none)) else (none))))))) = some (r1, r2, r3, r4, r5) := H
                      have A20 := Aside0.mk A200
                      clear A200
                      by_cases c21 : t154 = true
                      · subst c21
                        have H1 : (impl_one.l0 k2 a0 a1 (wrap64 (x8_2 + 1)) 0 (⟨#[]⟩ : ByteArray) 0 a1) = some (r1, r2, r3, r4, r5) := by rw [if_pos rfl] at H; exact H
                        clear H
                        have H := H1
                        clear H1
                        have H' := Aside0.mk H
                        clear H
                        have p16 : 0 ≤ (x8_2 : Int) := of_decide_eq_true (by first | (with_reducible assumption) | assumption)
                        have q16 : x8_2 < (a0.size : Int) := of_decide_eq_true (by first | (with_reducible assumption) | assumption)
                        have hx16 := bt_at a0 x8_2
                        replace p16 := eq_true p16
                        replace q16 := eq_true q16
                        go_wp2_with (first | (go_at_call 19; (with_reducible refine (impl_letter.calls (bt a0 x8_2) false _ A17.out).mono ?_); rintro e w' ⟨rfl, ⟨nd, rfl⟩⟩; have p19 : 0 ≤ (x8_2 : Int) := of_decide_eq_true (by first | (with_reducible assumption) | assumption); have q19 : x8_2 < (a0.size : Int) := of_decide_eq_true (by first | (with_reducible assumption) | assumption); have hx19 := bt_at a0 x8_2; replace p19 := eq_true p19; replace q19 := eq_true q19) | (go_at_call 20; (with_reducible refine (impl_digit.calls (bt a0 x8_2) true _ A20.out).mono ?_); rintro e w' ⟨rfl, ⟨nd, rfl⟩⟩))
                        go_roundg k2
                        case measure => have := HJ5.out; have := HK2.out; omega
                        case rel => exact ⟨(wrap64 (x8_2 + 1)), (by first | rfl | (simp; done) | (simp [*]; done)), H', ⟨by have := HJ5.out; have := HK2.out; omega⟩, ⟨by (with_reducible repeat (first | refine blk_drewN ?_ _ | refine blk_drew ?_ | refine blk_alloc ?_ _)); exact BK150.out⟩, ⟨by (with_reducible repeat (first | refine blk_drewN ?_ _ | refine blk_drew ?_ | refine blk_alloc ?_ _)); exact BK151.out⟩, ⟨by repeat (first | (with_reducible first | exact HB.out | apply below_alloc | apply pw_below_drewN | apply below_drew1 | refine below_set ?_ GE150.out | refine below_set ?_ GE151.out) | exact HB.out)⟩⟩
                      · replace c21 := Bool.eq_false_iff.mpr c21
                        subst c21
                        have H1 : (if (bt a0 x8_2) = 95 then (impl_one.l0 k2 a0 a1 (wrap64 (x8_2 + 1)) 0 (⟨#[]⟩ : ByteArray) 0 a1) else (if (bt a0 x8_2) = 45 then (impl_one.l0 k2 a0 a1 (wrap64 (x8_2 + 1)) 0 (⟨#[]⟩ : ByteArray) 0 a1) else (if (bt a0 x8_2) = 39 then (impl_one.l0 k2 a0 a1 (wrap64 (x8_2 + 1)) 0 (⟨#[]⟩ : ByteArray) 0 a1) else (if (wrap64 (x8_2 - a1)) > 60 then (some (0, (⟨#[]⟩ : ByteArray), 0, a1, 0)) else (if 0 ≤ a1 then (if a1 ≤ x8_2 then (if x8_2 ≤ (a0.size : Int) then (some (1, a0.extract (a1 : Int).toNat (x8_2 : Int).toNat, 0, a1, wrap64 (x8_2 - a1))) else (none)) else (none)) else (none)))))) = some (r1, r2, r3, r4, r5) := by rw [if_neg (show ¬ (false = true) by decide)] at H; exact H
                        clear H
                        have H := H1
                        clear H1
                        by_cases c23 : (bt a0 x8_2) = 95
                        · rw [if_pos c23] at H
                          have c23b0 : ((bt a0 x8_2) == 95) = true := beq_iff_eq.mpr c23
                          have c23b1 : ((bt a0 x8_2) != 95) = false := bne_eq_false_iff_eq.mpr c23
                          clear c23
                          have H' := Aside0.mk H
                          clear H
                          have p16 : 0 ≤ (x8_2 : Int) := of_decide_eq_true (by first | (with_reducible assumption) | assumption)
                          have q16 : x8_2 < (a0.size : Int) := of_decide_eq_true (by first | (with_reducible assumption) | assumption)
                          have hx16 := bt_at a0 x8_2
                          replace p16 := eq_true p16
                          replace q16 := eq_true q16
                          go_wp2_with (first | (go_at_call 19; (with_reducible refine (impl_letter.calls (bt a0 x8_2) false _ A17.out).mono ?_); rintro e w' ⟨rfl, ⟨nd, rfl⟩⟩; have p19 : 0 ≤ (x8_2 : Int) := of_decide_eq_true (by first | (with_reducible assumption) | assumption); have q19 : x8_2 < (a0.size : Int) := of_decide_eq_true (by first | (with_reducible assumption) | assumption); have hx19 := bt_at a0 x8_2; replace p19 := eq_true p19; replace q19 := eq_true q19) | (go_at_call 20; (with_reducible refine (impl_digit.calls (bt a0 x8_2) false _ A20.out).mono ?_); rintro e w' ⟨rfl, ⟨nd, rfl⟩⟩; have p22 : 0 ≤ (x8_2 : Int) := of_decide_eq_true (by first | (with_reducible assumption) | assumption); have q22 : x8_2 < (a0.size : Int) := of_decide_eq_true (by first | (with_reducible assumption) | assumption); have hx22 := bt_at a0 x8_2; replace p22 := eq_true p22; replace q22 := eq_true q22))
                          go_roundg k2
                          case measure => have := HJ5.out; have := HK2.out; omega
                          case rel => exact ⟨(wrap64 (x8_2 + 1)), (by first | rfl | (simp; done) | (simp [*]; done)), H', ⟨by have := HJ5.out; have := HK2.out; omega⟩, ⟨by (with_reducible repeat (first | refine blk_drewN ?_ _ | refine blk_drew ?_ | refine blk_alloc ?_ _)); exact BK150.out⟩, ⟨by (with_reducible repeat (first | refine blk_drewN ?_ _ | refine blk_drew ?_ | refine blk_alloc ?_ _)); exact BK151.out⟩, ⟨by repeat (first | (with_reducible first | exact HB.out | apply below_alloc | apply pw_below_drewN | apply below_drew1 | refine below_set ?_ GE150.out | refine below_set ?_ GE151.out) | exact HB.out)⟩⟩
                        · rw [if_neg c23] at H
                          have c23b0 : ((bt a0 x8_2) == 95) = false := beq_eq_false_iff_ne.mpr c23
                          have c23b1 : ((bt a0 x8_2) != 95) = true := bne_iff_ne.mpr c23
                          by_cases c25 : (bt a0 x8_2) = 45
                          · rw [if_pos c25] at H
                            have c25b0 : ((bt a0 x8_2) == 45) = true := beq_iff_eq.mpr c25
                            have c25b1 : ((bt a0 x8_2) != 45) = false := bne_eq_false_iff_eq.mpr c25
                            clear c25
                            have H' := Aside0.mk H
                            clear H
                            have p16 : 0 ≤ (x8_2 : Int) := of_decide_eq_true (by first | (with_reducible assumption) | assumption)
                            have q16 : x8_2 < (a0.size : Int) := of_decide_eq_true (by first | (with_reducible assumption) | assumption)
                            have hx16 := bt_at a0 x8_2
                            replace p16 := eq_true p16
                            replace q16 := eq_true q16
                            go_wp2_with (first | (go_at_call 19; (with_reducible refine (impl_letter.calls (bt a0 x8_2) false _ A17.out).mono ?_); rintro e w' ⟨rfl, ⟨nd, rfl⟩⟩; have p19 : 0 ≤ (x8_2 : Int) := of_decide_eq_true (by first | (with_reducible assumption) | assumption); have q19 : x8_2 < (a0.size : Int) := of_decide_eq_true (by first | (with_reducible assumption) | assumption); have hx19 := bt_at a0 x8_2; replace p19 := eq_true p19; replace q19 := eq_true q19) | (go_at_call 20; (with_reducible refine (impl_digit.calls (bt a0 x8_2) false _ A20.out).mono ?_); rintro e w' ⟨rfl, ⟨nd, rfl⟩⟩; have p22 : 0 ≤ (x8_2 : Int) := of_decide_eq_true (by first | (with_reducible assumption) | assumption); have q22 : x8_2 < (a0.size : Int) := of_decide_eq_true (by first | (with_reducible assumption) | assumption); have hx22 := bt_at a0 x8_2; replace p22 := eq_true p22; replace q22 := eq_true q22; have p24 : 0 ≤ (x8_2 : Int) := of_decide_eq_true (by first | (with_reducible assumption) | assumption); have q24 : x8_2 < (a0.size : Int) := of_decide_eq_true (by first | (with_reducible assumption) | assumption); have hx24 := bt_at a0 x8_2; replace p24 := eq_true p24; replace q24 := eq_true q24))
                            go_roundg k2
                            case measure => have := HJ5.out; have := HK2.out; omega
                            case rel => exact ⟨(wrap64 (x8_2 + 1)), (by first | rfl | (simp; done) | (simp [*]; done)), H', ⟨by have := HJ5.out; have := HK2.out; omega⟩, ⟨by (with_reducible repeat (first | refine blk_drewN ?_ _ | refine blk_drew ?_ | refine blk_alloc ?_ _)); exact BK150.out⟩, ⟨by (with_reducible repeat (first | refine blk_drewN ?_ _ | refine blk_drew ?_ | refine blk_alloc ?_ _)); exact BK151.out⟩, ⟨by repeat (first | (with_reducible first | exact HB.out | apply below_alloc | apply pw_below_drewN | apply below_drew1 | refine below_set ?_ GE150.out | refine below_set ?_ GE151.out) | exact HB.out)⟩⟩
                          · rw [if_neg c25] at H
                            have c25b0 : ((bt a0 x8_2) == 45) = false := beq_eq_false_iff_ne.mpr c25
                            have c25b1 : ((bt a0 x8_2) != 45) = true := bne_iff_ne.mpr c25
                            by_cases c27 : (bt a0 x8_2) = 39
                            · rw [if_pos c27] at H
                              have c27b0 : ((bt a0 x8_2) == 39) = true := beq_iff_eq.mpr c27
                              have c27b1 : ((bt a0 x8_2) != 39) = false := bne_eq_false_iff_eq.mpr c27
                              clear c27
                              have H' := Aside0.mk H
                              clear H
                              have p16 : 0 ≤ (x8_2 : Int) := of_decide_eq_true (by first | (with_reducible assumption) | assumption)
                              have q16 : x8_2 < (a0.size : Int) := of_decide_eq_true (by first | (with_reducible assumption) | assumption)
                              have hx16 := bt_at a0 x8_2
                              replace p16 := eq_true p16
                              replace q16 := eq_true q16
                              go_wp2_with (first | (go_at_call 19; (with_reducible refine (impl_letter.calls (bt a0 x8_2) false _ A17.out).mono ?_); rintro e w' ⟨rfl, ⟨nd, rfl⟩⟩; have p19 : 0 ≤ (x8_2 : Int) := of_decide_eq_true (by first | (with_reducible assumption) | assumption); have q19 : x8_2 < (a0.size : Int) := of_decide_eq_true (by first | (with_reducible assumption) | assumption); have hx19 := bt_at a0 x8_2; replace p19 := eq_true p19; replace q19 := eq_true q19) | (go_at_call 20; (with_reducible refine (impl_digit.calls (bt a0 x8_2) false _ A20.out).mono ?_); rintro e w' ⟨rfl, ⟨nd, rfl⟩⟩; have p22 : 0 ≤ (x8_2 : Int) := of_decide_eq_true (by first | (with_reducible assumption) | assumption); have q22 : x8_2 < (a0.size : Int) := of_decide_eq_true (by first | (with_reducible assumption) | assumption); have hx22 := bt_at a0 x8_2; replace p22 := eq_true p22; replace q22 := eq_true q22; have p24 : 0 ≤ (x8_2 : Int) := of_decide_eq_true (by first | (with_reducible assumption) | assumption); have q24 : x8_2 < (a0.size : Int) := of_decide_eq_true (by first | (with_reducible assumption) | assumption); have hx24 := bt_at a0 x8_2; replace p24 := eq_true p24; replace q24 := eq_true q24; have p26 : 0 ≤ (x8_2 : Int) := of_decide_eq_true (by first | (with_reducible assumption) | assumption); have q26 : x8_2 < (a0.size : Int) := of_decide_eq_true (by first | (with_reducible assumption) | assumption); have hx26 := bt_at a0 x8_2; replace p26 := eq_true p26; replace q26 := eq_true q26))
                              go_roundg k2
                              case measure => have := HJ5.out; have := HK2.out; omega
                              case rel => exact ⟨(wrap64 (x8_2 + 1)), (by first | rfl | (simp; done) | (simp [*]; done)), H', ⟨by have := HJ5.out; have := HK2.out; omega⟩, ⟨by (with_reducible repeat (first | refine blk_drewN ?_ _ | refine blk_drew ?_ | refine blk_alloc ?_ _)); exact BK150.out⟩, ⟨by (with_reducible repeat (first | refine blk_drewN ?_ _ | refine blk_drew ?_ | refine blk_alloc ?_ _)); exact BK151.out⟩, ⟨by repeat (first | (with_reducible first | exact HB.out | apply below_alloc | apply pw_below_drewN | apply below_drew1 | refine below_set ?_ GE150.out | refine below_set ?_ GE151.out) | exact HB.out)⟩⟩
                            · rw [if_neg c27] at H
                              have c27b0 : ((bt a0 x8_2) == 39) = false := beq_eq_false_iff_ne.mpr c27
                              have c27b1 : ((bt a0 x8_2) != 39) = true := bne_iff_ne.mpr c27
                              by_cases c28 : (wrap64 (x8_2 - a1)) > 60
                              · rw [if_pos c28] at H
                                have c28b0 : decide (60 < (wrap64 (x8_2 - a1))) = true := decide_eq_true c28
                                clear c28
                                simp only [Option.some.injEq, Prod.mk.injEq] at H
                                obtain ⟨rfl, rfl, rfl, rfl, rfl⟩ := H
                                have p16 : 0 ≤ (x8_2 : Int) := of_decide_eq_true (by first | (with_reducible assumption) | assumption)
                                have q16 : x8_2 < (a0.size : Int) := of_decide_eq_true (by first | (with_reducible assumption) | assumption)
                                have hx16 := bt_at a0 x8_2
                                replace p16 := eq_true p16
                                replace q16 := eq_true q16
                                go_wp2_with (first | (go_at_call 19; (with_reducible refine (impl_letter.calls (bt a0 x8_2) false _ A17.out).mono ?_); rintro e w' ⟨rfl, ⟨nd, rfl⟩⟩; (try (rw [drewN_self wr]; generalize hq_ : World.drewN wr _ = wr; have n0_ : Aside0 (wr.heap[gb150]? = some (.cells #[.int .i64 0, .string (⟨#[]⟩ : ByteArray), .int .i64 0, .int .i64 0] 30 (0, 0))) := ⟨by rw [← hq_]; exact (by (with_reducible repeat (first | refine blk_drewN ?_ _ | refine blk_drew ?_ | refine blk_alloc ?_ _)); exact BK150.out)⟩; have n1_ : Aside0 (wr.heap[gb151]? = some (.cells #[.int .i64 0, .string (⟨#[]⟩ : ByteArray), .int .i64 0, .int .i64 a1] 30 (0, 0))) := ⟨by rw [← hq_]; exact (by (with_reducible repeat (first | refine blk_drewN ?_ _ | refine blk_drew ?_ | refine blk_alloc ?_ _)); exact BK151.out)⟩; have n2_ : Aside0 (Below w.heap.size w wr) := ⟨by rw [← hq_]; exact (by repeat (first | (with_reducible first | exact HB.out | apply below_alloc | apply pw_below_drewN | apply below_drew1 | refine below_set ?_ GE150.out | refine below_set ?_ GE151.out) | exact HB.out))⟩; clear BK150 BK151 HB hq_; have BK150 := n0_; have BK151 := n1_; have HB := n2_; clear n0_ n1_ n2_)); have p19 : 0 ≤ (x8_2 : Int) := of_decide_eq_true (by first | (with_reducible assumption) | assumption); have q19 : x8_2 < (a0.size : Int) := of_decide_eq_true (by first | (with_reducible assumption) | assumption); have hx19 := bt_at a0 x8_2; replace p19 := eq_true p19; replace q19 := eq_true q19) | (go_at_call 20; (with_reducible refine (impl_digit.calls (bt a0 x8_2) false _ A20.out).mono ?_); rintro e w' ⟨rfl, ⟨nd, rfl⟩⟩; (try (rw [drewN_self wr]; generalize hq_ : World.drewN wr _ = wr; have n0_ : Aside0 (wr.heap[gb150]? = some (.cells #[.int .i64 0, .string (⟨#[]⟩ : ByteArray), .int .i64 0, .int .i64 0] 30 (0, 0))) := ⟨by rw [← hq_]; exact (by (with_reducible repeat (first | refine blk_drewN ?_ _ | refine blk_drew ?_ | refine blk_alloc ?_ _)); exact BK150.out)⟩; have n1_ : Aside0 (wr.heap[gb151]? = some (.cells #[.int .i64 0, .string (⟨#[]⟩ : ByteArray), .int .i64 0, .int .i64 a1] 30 (0, 0))) := ⟨by rw [← hq_]; exact (by (with_reducible repeat (first | refine blk_drewN ?_ _ | refine blk_drew ?_ | refine blk_alloc ?_ _)); exact BK151.out)⟩; have n2_ : Aside0 (Below w.heap.size w wr) := ⟨by rw [← hq_]; exact (by repeat (first | (with_reducible first | exact HB.out | apply below_alloc | apply pw_below_drewN | apply below_drew1 | refine below_set ?_ GE150.out | refine below_set ?_ GE151.out) | exact HB.out))⟩; clear BK150 BK151 HB hq_; have BK150 := n0_; have BK151 := n1_; have HB := n2_; clear n0_ n1_ n2_)); have p22 : 0 ≤ (x8_2 : Int) := of_decide_eq_true (by first | (with_reducible assumption) | assumption); have q22 : x8_2 < (a0.size : Int) := of_decide_eq_true (by first | (with_reducible assumption) | assumption); have hx22 := bt_at a0 x8_2; replace p22 := eq_true p22; replace q22 := eq_true q22; have p24 : 0 ≤ (x8_2 : Int) := of_decide_eq_true (by first | (with_reducible assumption) | assumption); have q24 : x8_2 < (a0.size : Int) := of_decide_eq_true (by first | (with_reducible assumption) | assumption); have hx24 := bt_at a0 x8_2; replace p24 := eq_true p24; replace q24 := eq_true q24; have p26 : 0 ≤ (x8_2 : Int) := of_decide_eq_true (by first | (with_reducible assumption) | assumption); have q26 : x8_2 < (a0.size : Int) := of_decide_eq_true (by first | (with_reducible assumption) | assumption); have hx26 := bt_at a0 x8_2; replace p26 := eq_true p26; replace q26 := eq_true q26; have hnb29 := NB151_150.out; have hnc29 := NB150_151.out; have hcz30_0 : wr.cell? ⟨gb151, 0, none⟩ = some (.int .i64 0) := (blk_cell BK151.out 0).trans rfl; have hcz30_1 : wr.cell? ⟨gb151, 1, none⟩ = some (.string (⟨#[]⟩ : ByteArray)) := (blk_cell BK151.out 1).trans rfl; have hcz30_2 : wr.cell? ⟨gb151, 2, none⟩ = some (.int .i64 0) := (blk_cell BK151.out 2).trans rfl; have hcz30_3 : wr.cell? ⟨gb151, 3, none⟩ = some (.int .i64 a1) := (blk_cell BK151.out 3).trans rfl; have hfz30_0 := blk_frozen BK151.out 0; have hfz30_1 := blk_frozen BK151.out 1; have hfz30_2 := blk_frozen BK151.out 2; have hfz30_3 := blk_frozen BK151.out 3; have hcz31_0 : wr.cell? ⟨gb150, 0, none⟩ = some (.int .i64 0) := (blk_cell BK150.out 0).trans rfl; have hcz31_1 : wr.cell? ⟨gb150, 1, none⟩ = some (.string (⟨#[]⟩ : ByteArray)) := (blk_cell BK150.out 1).trans rfl; have hcz31_2 : wr.cell? ⟨gb150, 2, none⟩ = some (.int .i64 0) := (blk_cell BK150.out 2).trans rfl; have hcz31_3 : wr.cell? ⟨gb150, 3, none⟩ = some (.int .i64 0) := (blk_cell BK150.out 3).trans rfl; have hfz31_0 := blk_frozen BK150.out 0; have hfz31_1 := blk_frozen BK150.out 1; have hfz31_2 := blk_frozen BK150.out 2; have hfz31_3 := blk_frozen BK150.out 3))
                                refine bodyPost_ret (results_ct rfl _ _ gb150 30 #[.int .i64 0, .string (⟨#[]⟩ : ByteArray), .int .i64 0, .int .i64 a1] (0, 0) _ rfl (by (with_reducible repeat (first | refine blk_drewN ?_ _ | refine blk_drew ?_ | refine blk_alloc ?_ _)); refine blk_put (cs := #[.int .i64 0, .string (⟨#[]⟩ : ByteArray), .int .i64 0, .int .i64 0]) ?_ 3 _ rfl; (with_reducible repeat (first | refine blk_drewN ?_ _ | refine blk_drew ?_ | refine blk_alloc ?_ _)); refine blk_put (cs := #[.int .i64 0, .string (⟨#[]⟩ : ByteArray), .int .i64 0, .int .i64 0]) ?_ 2 _ rfl; (with_reducible repeat (first | refine blk_drewN ?_ _ | refine blk_drew ?_ | refine blk_alloc ?_ _)); refine blk_put (cs := #[.int .i64 0, .string (⟨#[]⟩ : ByteArray), .int .i64 0, .int .i64 0]) ?_ 1 _ rfl; (with_reducible repeat (first | refine blk_drewN ?_ _ | refine blk_drew ?_ | refine blk_alloc ?_ _)); refine blk_put (cs := #[.int .i64 0, .string (⟨#[]⟩ : ByteArray), .int .i64 0, .int .i64 0]) ?_ 0 _ rfl; (with_reducible repeat (first | refine blk_drewN ?_ _ | refine blk_drew ?_ | refine blk_alloc ?_ _)); exact BK150.out) Tryd.underlying30 rfl (by kernel_rfl)) rfl ?_
                                exact ⟨by first | rfl | (simp [errW_none, errW_some] <;> rfl) | (simp [*, errW_none, errW_some] <;> rfl), by repeat (first | (with_reducible first | exact HB.out | apply below_alloc | apply pw_below_drewN | apply below_drew1 | refine below_set ?_ GE150.out | refine below_set ?_ GE151.out) | exact HB.out)⟩
                              · rw [if_neg c28] at H
                                have c28b0 : decide (60 < (wrap64 (x8_2 - a1))) = false := decide_eq_false c28
                                clear c28
                                by_cases c32 : 0 ≤ a1
                                · rw [if_pos c32] at H
                                  have c32b0 := eq_true c32
                                  have c32b1 : decide (0 ≤ a1) = true := decide_eq_true c32
                                  clear c32
                                  by_cases c33 : a1 ≤ x8_2
                                  · rw [if_pos c33] at H
                                    have c33b0 := eq_true c33
                                    have c33b1 : decide (a1 ≤ x8_2) = true := decide_eq_true c33
                                    clear c33
                                    by_cases c34 : x8_2 ≤ (a0.size : Int)
                                    · rw [if_pos c34] at H
                                      have c34b0 := eq_true c34
                                      have c34b1 : decide (x8_2 ≤ (a0.size : Int)) = true := decide_eq_true c34
                                      clear c34
                                      simp only [Option.some.injEq, Prod.mk.injEq] at H
                                      obtain ⟨rfl, rfl, rfl, rfl, rfl⟩ := H
                                      have p16 : 0 ≤ (x8_2 : Int) := of_decide_eq_true (by first | (with_reducible assumption) | assumption)
                                      have q16 : x8_2 < (a0.size : Int) := of_decide_eq_true (by first | (with_reducible assumption) | assumption)
                                      have hx16 := bt_at a0 x8_2
                                      replace p16 := eq_true p16
                                      replace q16 := eq_true q16
                                      try go_wp2_with (first | (go_at_call 19; (with_reducible refine (impl_letter.calls (bt a0 x8_2) false _ A17.out).mono ?_); rintro e w' ⟨rfl, ⟨nd, rfl⟩⟩; (try (rw [drewN_self wr]; generalize hq_ : World.drewN wr _ = wr; have n0_ : Aside0 (wr.heap[gb150]? = some (.cells #[.int .i64 0, .string (⟨#[]⟩ : ByteArray), .int .i64 0, .int .i64 0] 30 (0, 0))) := ⟨by rw [← hq_]; exact (by (with_reducible repeat (first | refine blk_drewN ?_ _ | refine blk_drew ?_ | refine blk_alloc ?_ _)); exact BK150.out)⟩; have n1_ : Aside0 (wr.heap[gb151]? = some (.cells #[.int .i64 0, .string (⟨#[]⟩ : ByteArray), .int .i64 0, .int .i64 a1] 30 (0, 0))) := ⟨by rw [← hq_]; exact (by (with_reducible repeat (first | refine blk_drewN ?_ _ | refine blk_drew ?_ | refine blk_alloc ?_ _)); exact BK151.out)⟩; have n2_ : Aside0 (Below w.heap.size w wr) := ⟨by rw [← hq_]; exact (by repeat (first | (with_reducible first | exact HB.out | apply below_alloc | apply pw_below_drewN | apply below_drew1 | refine below_set ?_ GE150.out | refine below_set ?_ GE151.out) | exact HB.out))⟩; clear BK150 BK151 HB hq_; have BK150 := n0_; have BK151 := n1_; have HB := n2_; clear n0_ n1_ n2_)); have p19 : 0 ≤ (x8_2 : Int) := of_decide_eq_true (by first | (with_reducible assumption) | assumption); have q19 : x8_2 < (a0.size : Int) := of_decide_eq_true (by first | (with_reducible assumption) | assumption); have hx19 := bt_at a0 x8_2; replace p19 := eq_true p19; replace q19 := eq_true q19) | (go_at_call 20; (with_reducible refine (impl_digit.calls (bt a0 x8_2) false _ A20.out).mono ?_); rintro e w' ⟨rfl, ⟨nd, rfl⟩⟩; (try (rw [drewN_self wr]; generalize hq_ : World.drewN wr _ = wr; have n0_ : Aside0 (wr.heap[gb150]? = some (.cells #[.int .i64 0, .string (⟨#[]⟩ : ByteArray), .int .i64 0, .int .i64 0] 30 (0, 0))) := ⟨by rw [← hq_]; exact (by (with_reducible repeat (first | refine blk_drewN ?_ _ | refine blk_drew ?_ | refine blk_alloc ?_ _)); exact BK150.out)⟩; have n1_ : Aside0 (wr.heap[gb151]? = some (.cells #[.int .i64 0, .string (⟨#[]⟩ : ByteArray), .int .i64 0, .int .i64 a1] 30 (0, 0))) := ⟨by rw [← hq_]; exact (by (with_reducible repeat (first | refine blk_drewN ?_ _ | refine blk_drew ?_ | refine blk_alloc ?_ _)); exact BK151.out)⟩; have n2_ : Aside0 (Below w.heap.size w wr) := ⟨by rw [← hq_]; exact (by repeat (first | (with_reducible first | exact HB.out | apply below_alloc | apply pw_below_drewN | apply below_drew1 | refine below_set ?_ GE150.out | refine below_set ?_ GE151.out) | exact HB.out))⟩; clear BK150 BK151 HB hq_; have BK150 := n0_; have BK151 := n1_; have HB := n2_; clear n0_ n1_ n2_)); have p22 : 0 ≤ (x8_2 : Int) := of_decide_eq_true (by first | (with_reducible assumption) | assumption); have q22 : x8_2 < (a0.size : Int) := of_decide_eq_true (by first | (with_reducible assumption) | assumption); have hx22 := bt_at a0 x8_2; replace p22 := eq_true p22; replace q22 := eq_true q22; have p24 : 0 ≤ (x8_2 : Int) := of_decide_eq_true (by first | (with_reducible assumption) | assumption); have q24 : x8_2 < (a0.size : Int) := of_decide_eq_true (by first | (with_reducible assumption) | assumption); have hx24 := bt_at a0 x8_2; replace p24 := eq_true p24; replace q24 := eq_true q24; have p26 : 0 ≤ (x8_2 : Int) := of_decide_eq_true (by first | (with_reducible assumption) | assumption); have q26 : x8_2 < (a0.size : Int) := of_decide_eq_true (by first | (with_reducible assumption) | assumption); have hx26 := bt_at a0 x8_2; replace p26 := eq_true p26; replace q26 := eq_true q26))
                                      have n0_ := Aside0.mk (blk_drew BK150.out)
                                      have n1_ := Aside0.mk (blk_drew BK151.out)
                                      have n2_ := Aside0.mk (below_drew1 HB.out)
                                      clear BK150
                                      clear BK151
                                      clear HB
                                      have BK150 := n0_
                                      have BK151 := n1_
                                      have HB := n2_
                                      clear n0_ n1_ n2_
                                      refine start_ (n := 8) (S := fun w' => True) (ds := []) #[false, false, false, false, false, false, false, false] (by kernel_rfl) rfl rfl trivial (fun hHeld => ?_); refine with_tabW impl_one.tab9 impl_one.bits9 (fun HT_ HW_ => ?_)
                                      generalize wr.drew = w35 at BK150 BK151 HB hHeld ⊢
                                      refine pure_ (i := 0) (N := some 73) (v := ?_) (a' := ?_) #[true, false, false, false, false, false, false, false] rfl rfl (any_of HT_.out (by kernel_rfl)) (fun _ _ _ h => h) (Or.inl ⟨by rfl, ?_⟩) ?_ ?_
                                      rotate_left
                                      · intro w'
                                        go_simp
                                        with_reducible rfl
                                      rotate_left
                                      · simp only [Act.put, List.setIfInBounds_toArray, List.set_cons_zero, List.set_cons_succ, i64_w, i32_w]
                                        rfl
                                      refine pure_ (i := 1) (N := some 74) (v := ?_) (a' := ?_) #[true, true, false, false, false, false, false, false] rfl rfl (any_of HT_.out (by kernel_rfl)) (fun _ _ _ h => h) (Or.inl ⟨by rfl, ?_⟩) ?_ ?_
                                      rotate_left
                                      · intro w'
                                        go_simp
                                        with_reducible rfl
                                      rotate_left
                                      · simp only [Act.put, List.setIfInBounds_toArray, List.set_cons_zero, List.set_cons_succ, i64_w, i32_w]
                                        rfl
                                      refine pure_ (i := 2) (N := some 75) (v := ?_) (a' := ?_) #[true, true, true, false, false, false, false, false] rfl rfl (any_of HT_.out (by kernel_rfl)) (fun _ _ _ h => h) (Or.inl ⟨by rfl, ?_⟩) ?_ ?_
                                      rotate_left
                                      · intro w'
                                        go_simp
                                        with_reducible rfl
                                      rotate_left
                                      · simp only [Act.put, List.setIfInBounds_toArray, List.set_cons_zero, List.set_cons_succ, i64_w, i32_w]
                                        rfl
                                      refine pure_ (i := 3) (N := some 76) (v := ?_) (a' := ?_) #[true, true, true, true, false, false, false, false] rfl rfl (any_of HT_.out (by kernel_rfl)) (fun _ _ _ h => h) (Or.inl ⟨by rfl, ?_⟩) ?_ ?_
                                      rotate_left
                                      · intro w'
                                        go_simp
                                        with_reducible rfl
                                      rotate_left
                                      · simp only [Act.put, List.setIfInBounds_toArray, List.set_cons_zero, List.set_cons_succ, i64_w, i32_w]
                                        rfl
                                      refine pure_ (i := 4) (N := some 77) (v := ?_) (a' := ?_) #[true, true, true, true, true, false, false, false] rfl rfl (any_of HT_.out (by kernel_rfl)) (fun _ _ _ h => h) (Or.inl ⟨by rfl, ?_⟩) ?_ ?_
                                      rotate_left
                                      · intro w'
                                        go_simp
                                        with_reducible rfl
                                      rotate_left
                                      · simp only [Act.put, List.setIfInBounds_toArray, List.set_cons_zero, List.set_cons_succ, i64_w, i32_w]
                                        rfl
                                      refine one_ (i := 5) (N := none) #[true, true, true, true, true, true, false, false] rfl rfl (one_of HT_.out (by kernel_rfl)) (by decide) (fun K hK => ?_)
                                      have hs36 : w35.cell? ⟨gb151, 0, none⟩ = some (.int .i64 0) := (blk_cell BK151.out 0).trans rfl
                                      have hfs36 := blk_frozen BK151.out 0
                                      have hns36_0 := NB150_151.out
                                      have hms36_0 := NB151_150.out
                                      refine skip_ (w1 := ?_) (by rfl) rfl ?_ ?_
                                      rotate_left
                                      · go_simp
                                        rfl
                                      refine hK.out _ _ trivial (fun hHeld => ?_)
                                      clear hK K
                                      refine pure_ (i := 6) (N := some 78) (v := ?_) (a' := ?_) #[true, true, true, true, true, true, true, false] rfl rfl (any_of HT_.out (by kernel_rfl)) (fun _ _ _ h => h) (Or.inl ⟨by rfl, ?_⟩) ?_ ?_
                                      rotate_left
                                      · intro w'
                                        go_simp
                                        with_reducible rfl
                                      rotate_left
                                      · simp only [Act.put, List.setIfInBounds_toArray, List.set_cons_zero, List.set_cons_succ, i64_w, i32_w]
                                        rfl
                                      refine one_ (i := 7) (N := none) #[true, true, true, true, true, true, true, true] rfl rfl (one_of HT_.out (by kernel_rfl)) (by decide) (fun K hK => ?_)
                                      have hs37 : w35.cell? ⟨gb151, 1, none⟩ = some (.string (⟨#[]⟩ : ByteArray)) := (blk_cell BK151.out 1).trans rfl
                                      have hfs37 := blk_frozen BK151.out 1
                                      have hns37_0 := NB150_151.out
                                      have hms37_0 := NB151_150.out
                                      refine skip_ (w1 := ?_) (by rfl) rfl ?_ ?_
                                      rotate_left
                                      · go_simp
                                        rfl
                                      refine hK.out _ _ trivial (fun hHeld => ?_)
                                      clear hK K
                                      refine done_ (done_of HT_.out (by kernel_rfl)) ?_
                                      have hnb38 := NB151_150.out
                                      have hnc38 := NB150_151.out
                                      have hcz39_0 : w35.cell? ⟨gb151, 0, none⟩ = some (.int .i64 0) := (blk_cell BK151.out 0).trans rfl
                                      have hcz39_1 : w35.cell? ⟨gb151, 1, none⟩ = some (.string (⟨#[]⟩ : ByteArray)) := (blk_cell BK151.out 1).trans rfl
                                      have hcz39_2 : w35.cell? ⟨gb151, 2, none⟩ = some (.int .i64 0) := (blk_cell BK151.out 2).trans rfl
                                      have hcz39_3 : w35.cell? ⟨gb151, 3, none⟩ = some (.int .i64 a1) := (blk_cell BK151.out 3).trans rfl
                                      have hfz39_0 := blk_frozen BK151.out 0
                                      have hfz39_1 := blk_frozen BK151.out 1
                                      have hfz39_2 := blk_frozen BK151.out 2
                                      have hfz39_3 := blk_frozen BK151.out 3
                                      have hcz40_0 : w35.cell? ⟨gb150, 0, none⟩ = some (.int .i64 0) := (blk_cell BK150.out 0).trans rfl
                                      have hcz40_1 : w35.cell? ⟨gb150, 1, none⟩ = some (.string (⟨#[]⟩ : ByteArray)) := (blk_cell BK150.out 1).trans rfl
                                      have hcz40_2 : w35.cell? ⟨gb150, 2, none⟩ = some (.int .i64 0) := (blk_cell BK150.out 2).trans rfl
                                      have hcz40_3 : w35.cell? ⟨gb150, 3, none⟩ = some (.int .i64 0) := (blk_cell BK150.out 3).trans rfl
                                      have hfz40_0 := blk_frozen BK150.out 0
                                      have hfz40_1 := blk_frozen BK150.out 1
                                      have hfz40_2 := blk_frozen BK150.out 2
                                      have hfz40_3 := blk_frozen BK150.out 3
                                      try go_wp2
                                      refine bodyPost_ret (results_ct rfl _ _ gb150 30 #[.int .i64 1, .string (a0.extract (a1 : Int).toNat (x8_2 : Int).toNat), .int .i64 0, .int .i64 a1] (0, 0) _ rfl (by (with_reducible repeat (first | refine blk_drewN ?_ _ | refine blk_drew ?_ | refine blk_alloc ?_ _)); refine blk_put (cs := #[.int .i64 1, .string (a0.extract (a1 : Int).toNat (x8_2 : Int).toNat), .int .i64 0, .int .i64 0]) ?_ 3 _ rfl; (with_reducible repeat (first | refine blk_drewN ?_ _ | refine blk_drew ?_ | refine blk_alloc ?_ _)); refine blk_put (cs := #[.int .i64 1, .string (a0.extract (a1 : Int).toNat (x8_2 : Int).toNat), .int .i64 0, .int .i64 0]) ?_ 2 _ rfl; (with_reducible repeat (first | refine blk_drewN ?_ _ | refine blk_drew ?_ | refine blk_alloc ?_ _)); refine blk_put (cs := #[.int .i64 1, .string (⟨#[]⟩ : ByteArray), .int .i64 0, .int .i64 0]) ?_ 1 _ rfl; (with_reducible repeat (first | refine blk_drewN ?_ _ | refine blk_drew ?_ | refine blk_alloc ?_ _)); refine blk_put (cs := #[.int .i64 0, .string (⟨#[]⟩ : ByteArray), .int .i64 0, .int .i64 0]) ?_ 0 _ rfl; (with_reducible repeat (first | refine blk_drewN ?_ _ | refine blk_drew ?_ | refine blk_alloc ?_ _)); refine blk_far ?_ NB150_151.out _; (with_reducible repeat (first | refine blk_drewN ?_ _ | refine blk_drew ?_ | refine blk_alloc ?_ _)); refine blk_far ?_ NB150_151.out _; (with_reducible repeat (first | refine blk_drewN ?_ _ | refine blk_drew ?_ | refine blk_alloc ?_ _)); exact BK150.out) Tryd.underlying30 rfl (by kernel_rfl)) rfl ?_
                                      exact ⟨by first | rfl | (simp [errW_none, errW_some] <;> rfl) | (simp [*, errW_none, errW_some] <;> rfl), by repeat (first | (with_reducible first | exact HB.out | apply below_alloc | apply pw_below_drewN | apply below_drew1 | refine below_set ?_ GE150.out | refine below_set ?_ GE151.out) | exact HB.out)⟩
                                    · rw [if_neg c34] at H
                                      exact absurd H (by simp)
                                  · rw [if_neg c33] at H
                                    exact absurd H (by simp)
                                · rw [if_neg c32] at H
                                  exact absurd H (by simp)
                  · rw [if_neg c15] at H
                    exact absurd H (by simp)
                · rw [if_neg c14] at H
                  have c14b0 : decide (x8_2 < (a0.size : Int)) = false := decide_eq_false c14
                  clear c14
                  by_cases c41 : (wrap64 (x8_2 - a1)) > 60
                  · rw [if_pos c41] at H
                    have c41b0 : decide (60 < (wrap64 (x8_2 - a1))) = true := decide_eq_true c41
                    clear c41
                    simp only [Option.some.injEq, Prod.mk.injEq] at H
                    obtain ⟨rfl, rfl, rfl, rfl, rfl⟩ := H
                    have hnb42 := NB151_150.out
                    have hnc42 := NB150_151.out
                    have hcz43_0 : wr.cell? ⟨gb151, 0, none⟩ = some (.int .i64 0) := (blk_cell BK151.out 0).trans rfl
                    have hcz43_1 : wr.cell? ⟨gb151, 1, none⟩ = some (.string (⟨#[]⟩ : ByteArray)) := (blk_cell BK151.out 1).trans rfl
                    have hcz43_2 : wr.cell? ⟨gb151, 2, none⟩ = some (.int .i64 0) := (blk_cell BK151.out 2).trans rfl
                    have hcz43_3 : wr.cell? ⟨gb151, 3, none⟩ = some (.int .i64 a1) := (blk_cell BK151.out 3).trans rfl
                    have hfz43_0 := blk_frozen BK151.out 0
                    have hfz43_1 := blk_frozen BK151.out 1
                    have hfz43_2 := blk_frozen BK151.out 2
                    have hfz43_3 := blk_frozen BK151.out 3
                    have hcz44_0 : wr.cell? ⟨gb150, 0, none⟩ = some (.int .i64 0) := (blk_cell BK150.out 0).trans rfl
                    have hcz44_1 : wr.cell? ⟨gb150, 1, none⟩ = some (.string (⟨#[]⟩ : ByteArray)) := (blk_cell BK150.out 1).trans rfl
                    have hcz44_2 : wr.cell? ⟨gb150, 2, none⟩ = some (.int .i64 0) := (blk_cell BK150.out 2).trans rfl
                    have hcz44_3 : wr.cell? ⟨gb150, 3, none⟩ = some (.int .i64 0) := (blk_cell BK150.out 3).trans rfl
                    have hfz44_0 := blk_frozen BK150.out 0
                    have hfz44_1 := blk_frozen BK150.out 1
                    have hfz44_2 := blk_frozen BK150.out 2
                    have hfz44_3 := blk_frozen BK150.out 3
                    go_wp2
                    refine bodyPost_ret (results_ct rfl _ _ gb150 30 #[.int .i64 0, .string (⟨#[]⟩ : ByteArray), .int .i64 0, .int .i64 a1] (0, 0) _ rfl (by (with_reducible repeat (first | refine blk_drewN ?_ _ | refine blk_drew ?_ | refine blk_alloc ?_ _)); refine blk_put (cs := #[.int .i64 0, .string (⟨#[]⟩ : ByteArray), .int .i64 0, .int .i64 0]) ?_ 3 _ rfl; (with_reducible repeat (first | refine blk_drewN ?_ _ | refine blk_drew ?_ | refine blk_alloc ?_ _)); refine blk_put (cs := #[.int .i64 0, .string (⟨#[]⟩ : ByteArray), .int .i64 0, .int .i64 0]) ?_ 2 _ rfl; (with_reducible repeat (first | refine blk_drewN ?_ _ | refine blk_drew ?_ | refine blk_alloc ?_ _)); refine blk_put (cs := #[.int .i64 0, .string (⟨#[]⟩ : ByteArray), .int .i64 0, .int .i64 0]) ?_ 1 _ rfl; (with_reducible repeat (first | refine blk_drewN ?_ _ | refine blk_drew ?_ | refine blk_alloc ?_ _)); refine blk_put (cs := #[.int .i64 0, .string (⟨#[]⟩ : ByteArray), .int .i64 0, .int .i64 0]) ?_ 0 _ rfl; (with_reducible repeat (first | refine blk_drewN ?_ _ | refine blk_drew ?_ | refine blk_alloc ?_ _)); exact BK150.out) Tryd.underlying30 rfl (by kernel_rfl)) rfl ?_
                    exact ⟨by first | rfl | (simp [errW_none, errW_some] <;> rfl) | (simp [*, errW_none, errW_some] <;> rfl), by repeat (first | (with_reducible first | exact HB.out | apply below_alloc | apply pw_below_drewN | apply below_drew1 | refine below_set ?_ GE150.out | refine below_set ?_ GE151.out) | exact HB.out)⟩
                  · rw [if_neg c41] at H
                    have c41b0 : decide (60 < (wrap64 (x8_2 - a1))) = false := decide_eq_false c41
                    clear c41
                    by_cases c45 : 0 ≤ a1
                    · rw [if_pos c45] at H
                      have c45b0 := eq_true c45
                      have c45b1 : decide (0 ≤ a1) = true := decide_eq_true c45
                      clear c45
                      by_cases c46 : a1 ≤ x8_2
                      · rw [if_pos c46] at H
                        have c46b0 := eq_true c46
                        have c46b1 : decide (a1 ≤ x8_2) = true := decide_eq_true c46
                        clear c46
                        by_cases c47 : x8_2 ≤ (a0.size : Int)
                        · rw [if_pos c47] at H
                          have c47b0 := eq_true c47
                          have c47b1 : decide (x8_2 ≤ (a0.size : Int)) = true := decide_eq_true c47
                          clear c47
                          simp only [Option.some.injEq, Prod.mk.injEq] at H
                          obtain ⟨rfl, rfl, rfl, rfl, rfl⟩ := H
                          try go_wp2
                          have n0_ := Aside0.mk (blk_drew BK150.out)
                          have n1_ := Aside0.mk (blk_drew BK151.out)
                          have n2_ := Aside0.mk (below_drew1 HB.out)
                          clear BK150
                          clear BK151
                          clear HB
                          have BK150 := n0_
                          have BK151 := n1_
                          have HB := n2_
                          clear n0_ n1_ n2_
                          refine start_ (n := 8) (S := fun w' => True) (ds := []) #[false, false, false, false, false, false, false, false] (by kernel_rfl) rfl rfl trivial (fun hHeld => ?_); refine with_tabW impl_one.tab9 impl_one.bits9 (fun HT_ HW_ => ?_)
                          generalize wr.drew = w48 at BK150 BK151 HB hHeld ⊢
                          refine pure_ (i := 0) (N := some 73) (v := ?_) (a' := ?_) #[true, false, false, false, false, false, false, false] rfl rfl (any_of HT_.out (by kernel_rfl)) (fun _ _ _ h => h) (Or.inl ⟨by rfl, ?_⟩) ?_ ?_
                          rotate_left
                          · intro w'
                            go_simp
                            with_reducible rfl
                          rotate_left
                          · simp only [Act.put, List.setIfInBounds_toArray, List.set_cons_zero, List.set_cons_succ, i64_w, i32_w]
                            rfl
                          refine pure_ (i := 1) (N := some 74) (v := ?_) (a' := ?_) #[true, true, false, false, false, false, false, false] rfl rfl (any_of HT_.out (by kernel_rfl)) (fun _ _ _ h => h) (Or.inl ⟨by rfl, ?_⟩) ?_ ?_
                          rotate_left
                          · intro w'
                            go_simp
                            with_reducible rfl
                          rotate_left
                          · simp only [Act.put, List.setIfInBounds_toArray, List.set_cons_zero, List.set_cons_succ, i64_w, i32_w]
                            rfl
                          refine pure_ (i := 2) (N := some 75) (v := ?_) (a' := ?_) #[true, true, true, false, false, false, false, false] rfl rfl (any_of HT_.out (by kernel_rfl)) (fun _ _ _ h => h) (Or.inl ⟨by rfl, ?_⟩) ?_ ?_
                          rotate_left
                          · intro w'
                            go_simp
                            with_reducible rfl
                          rotate_left
                          · simp only [Act.put, List.setIfInBounds_toArray, List.set_cons_zero, List.set_cons_succ, i64_w, i32_w]
                            rfl
                          refine pure_ (i := 3) (N := some 76) (v := ?_) (a' := ?_) #[true, true, true, true, false, false, false, false] rfl rfl (any_of HT_.out (by kernel_rfl)) (fun _ _ _ h => h) (Or.inl ⟨by rfl, ?_⟩) ?_ ?_
                          rotate_left
                          · intro w'
                            go_simp
                            with_reducible rfl
                          rotate_left
                          · simp only [Act.put, List.setIfInBounds_toArray, List.set_cons_zero, List.set_cons_succ, i64_w, i32_w]
                            rfl
                          refine pure_ (i := 4) (N := some 77) (v := ?_) (a' := ?_) #[true, true, true, true, true, false, false, false] rfl rfl (any_of HT_.out (by kernel_rfl)) (fun _ _ _ h => h) (Or.inl ⟨by rfl, ?_⟩) ?_ ?_
                          rotate_left
                          · intro w'
                            go_simp
                            with_reducible rfl
                          rotate_left
                          · simp only [Act.put, List.setIfInBounds_toArray, List.set_cons_zero, List.set_cons_succ, i64_w, i32_w]
                            rfl
                          refine one_ (i := 5) (N := none) #[true, true, true, true, true, true, false, false] rfl rfl (one_of HT_.out (by kernel_rfl)) (by decide) (fun K hK => ?_)
                          have hs49 : w48.cell? ⟨gb151, 0, none⟩ = some (.int .i64 0) := (blk_cell BK151.out 0).trans rfl
                          have hfs49 := blk_frozen BK151.out 0
                          have hns49_0 := NB150_151.out
                          have hms49_0 := NB151_150.out
                          refine skip_ (w1 := ?_) (by rfl) rfl ?_ ?_
                          rotate_left
                          · go_simp
                            rfl
                          refine hK.out _ _ trivial (fun hHeld => ?_)
                          clear hK K
                          refine pure_ (i := 6) (N := some 78) (v := ?_) (a' := ?_) #[true, true, true, true, true, true, true, false] rfl rfl (any_of HT_.out (by kernel_rfl)) (fun _ _ _ h => h) (Or.inl ⟨by rfl, ?_⟩) ?_ ?_
                          rotate_left
                          · intro w'
                            go_simp
                            with_reducible rfl
                          rotate_left
                          · simp only [Act.put, List.setIfInBounds_toArray, List.set_cons_zero, List.set_cons_succ, i64_w, i32_w]
                            rfl
                          refine one_ (i := 7) (N := none) #[true, true, true, true, true, true, true, true] rfl rfl (one_of HT_.out (by kernel_rfl)) (by decide) (fun K hK => ?_)
                          have hs50 : w48.cell? ⟨gb151, 1, none⟩ = some (.string (⟨#[]⟩ : ByteArray)) := (blk_cell BK151.out 1).trans rfl
                          have hfs50 := blk_frozen BK151.out 1
                          have hns50_0 := NB150_151.out
                          have hms50_0 := NB151_150.out
                          refine skip_ (w1 := ?_) (by rfl) rfl ?_ ?_
                          rotate_left
                          · go_simp
                            rfl
                          refine hK.out _ _ trivial (fun hHeld => ?_)
                          clear hK K
                          refine done_ (done_of HT_.out (by kernel_rfl)) ?_
                          have hnb51 := NB151_150.out
                          have hnc51 := NB150_151.out
                          have hcz52_0 : w48.cell? ⟨gb151, 0, none⟩ = some (.int .i64 0) := (blk_cell BK151.out 0).trans rfl
                          have hcz52_1 : w48.cell? ⟨gb151, 1, none⟩ = some (.string (⟨#[]⟩ : ByteArray)) := (blk_cell BK151.out 1).trans rfl
                          have hcz52_2 : w48.cell? ⟨gb151, 2, none⟩ = some (.int .i64 0) := (blk_cell BK151.out 2).trans rfl
                          have hcz52_3 : w48.cell? ⟨gb151, 3, none⟩ = some (.int .i64 a1) := (blk_cell BK151.out 3).trans rfl
                          have hfz52_0 := blk_frozen BK151.out 0
                          have hfz52_1 := blk_frozen BK151.out 1
                          have hfz52_2 := blk_frozen BK151.out 2
                          have hfz52_3 := blk_frozen BK151.out 3
                          have hcz53_0 : w48.cell? ⟨gb150, 0, none⟩ = some (.int .i64 0) := (blk_cell BK150.out 0).trans rfl
                          have hcz53_1 : w48.cell? ⟨gb150, 1, none⟩ = some (.string (⟨#[]⟩ : ByteArray)) := (blk_cell BK150.out 1).trans rfl
                          have hcz53_2 : w48.cell? ⟨gb150, 2, none⟩ = some (.int .i64 0) := (blk_cell BK150.out 2).trans rfl
                          have hcz53_3 : w48.cell? ⟨gb150, 3, none⟩ = some (.int .i64 0) := (blk_cell BK150.out 3).trans rfl
                          have hfz53_0 := blk_frozen BK150.out 0
                          have hfz53_1 := blk_frozen BK150.out 1
                          have hfz53_2 := blk_frozen BK150.out 2
                          have hfz53_3 := blk_frozen BK150.out 3
                          try go_wp2
                          refine bodyPost_ret (results_ct rfl _ _ gb150 30 #[.int .i64 1, .string (a0.extract (a1 : Int).toNat (x8_2 : Int).toNat), .int .i64 0, .int .i64 a1] (0, 0) _ rfl (by (with_reducible repeat (first | refine blk_drewN ?_ _ | refine blk_drew ?_ | refine blk_alloc ?_ _)); refine blk_put (cs := #[.int .i64 1, .string (a0.extract (a1 : Int).toNat (x8_2 : Int).toNat), .int .i64 0, .int .i64 0]) ?_ 3 _ rfl; (with_reducible repeat (first | refine blk_drewN ?_ _ | refine blk_drew ?_ | refine blk_alloc ?_ _)); refine blk_put (cs := #[.int .i64 1, .string (a0.extract (a1 : Int).toNat (x8_2 : Int).toNat), .int .i64 0, .int .i64 0]) ?_ 2 _ rfl; (with_reducible repeat (first | refine blk_drewN ?_ _ | refine blk_drew ?_ | refine blk_alloc ?_ _)); refine blk_put (cs := #[.int .i64 1, .string (⟨#[]⟩ : ByteArray), .int .i64 0, .int .i64 0]) ?_ 1 _ rfl; (with_reducible repeat (first | refine blk_drewN ?_ _ | refine blk_drew ?_ | refine blk_alloc ?_ _)); refine blk_put (cs := #[.int .i64 0, .string (⟨#[]⟩ : ByteArray), .int .i64 0, .int .i64 0]) ?_ 0 _ rfl; (with_reducible repeat (first | refine blk_drewN ?_ _ | refine blk_drew ?_ | refine blk_alloc ?_ _)); refine blk_far ?_ NB150_151.out _; (with_reducible repeat (first | refine blk_drewN ?_ _ | refine blk_drew ?_ | refine blk_alloc ?_ _)); refine blk_far ?_ NB150_151.out _; (with_reducible repeat (first | refine blk_drewN ?_ _ | refine blk_drew ?_ | refine blk_alloc ?_ _)); exact BK150.out) Tryd.underlying30 rfl (by kernel_rfl)) rfl ?_
                          exact ⟨by first | rfl | (simp [errW_none, errW_some] <;> rfl) | (simp [*, errW_none, errW_some] <;> rfl), by repeat (first | (with_reducible first | exact HB.out | apply below_alloc | apply pw_below_drewN | apply below_drew1 | refine below_set ?_ GE150.out | refine below_set ?_ GE151.out) | exact HB.out)⟩
                        · rw [if_neg c47] at H
                          exact absurd H (by simp)
                      · rw [if_neg c46] at H
                        exact absurd H (by simp)
                    · rw [if_neg c45] at H
                      exact absurd H (by simp)
          · replace c13 := Bool.eq_false_iff.mpr c13
            subst c13
            have H1 : ((impl_digit.f (bt a0 a1)).bind fun t155 => (if t155 = true then (impl_one.l1 kj5 a0 a1 a1 0 (⟨#[]⟩ : ByteArray) 0 a1) else (if (bt a0 a1) = 34 then (impl_one.l2 kj5 a0 a1 ([] : List Int) (wrap64 (a1 + 1)) 0 (⟨#[]⟩ : ByteArray) 0 a1) else (impl_one.l3 kj5 a0 a1 signsL (signsL.length : Int) 0 0 (⟨#[]⟩ : ByteArray) 0 a1)))) = some (r1, r2, r3, r4, r5) := by rw [if_neg (show ¬ (false = true) by decide)] at H; exact H
            clear H
            have H := H1
            clear H1
            replace H := Option.bind_eq_some_iff.mp H
            obtain ⟨t155, A540, H⟩ := H
            replace H : (if t155 = true then (impl_one.l1 kj5 a0 a1 a1 0 (⟨#[]⟩ : ByteArray) 0 a1) else (if (bt a0 a1) = 34 then (impl_one.l2 kj5 a0 a1 ([] : List Int) (wrap64 (a1 + 1)) 0 (⟨#[]⟩ : ByteArray) 0 a1) else (impl_one.l3 kj5 a0 a1 signsL (signsL.length : Int) 0 0 (⟨#[]⟩ : ByteArray) 0 a1))) = some (r1, r2, r3, r4, r5) := H
            have A54 := Aside0.mk A540
            clear A540
            by_cases c55 : t155 = true
            · subst c55
              have H1 : (impl_one.l1 kj5 a0 a1 a1 0 (⟨#[]⟩ : ByteArray) 0 a1) = some (r1, r2, r3, r4, r5) := by rw [if_pos rfl] at H; exact H
              clear H
              have H := H1
              clear H1
              have HC56 := Aside0.mk H
              clear H
              go_upto_block 3 with (first | ((with_reducible refine gate_callee (f := 20) rfl ?_); refine goesL_ (some 85) rfl rfl Tryd.func20 (by kernel_rfl) rfl #[.int .u8 (bt a0 a1)] rfl (by (try simp only [List.map_toArray, List.map_cons, List.map_nil]); first | done | rfl | (simp only [List.length_drop, List.length_take]; rfl)) ?_; (with_reducible refine (impl_digit.calls (bt a0 a1) true _ A54.out).mono ?_); rintro e w' ⟨rfl, ⟨nd, rfl⟩⟩; refine ⟨_, rfl, ?_⟩))
              (try simp only [Act.put, List.setIfInBounds_toArray, List.set_cons_zero, List.set_cons_succ])
              go_cut [9] (fun v9 wc => ∃ (kq : Nat) (x9_55 : Int), v9 = .int .i64 x9_55 ∧ Aside0 (impl_one.j3 kq a0 a1 x9_55 0 (⟨#[]⟩ : ByteArray) 0 a1 = some (r1, r2, r3, r4, r5)) ∧ Aside0 (kq ≤ kj5) ∧ Aside0 (wc.heap[gb150]? = some (.cells #[.int .i64 0, .string (⟨#[]⟩ : ByteArray), .int .i64 0, .int .i64 0] 30 (0, 0))) ∧ Aside0 (wc.heap[gb151]? = some (.cells #[.int .i64 0, .string (⟨#[]⟩ : ByteArray), .int .i64 0, .int .i64 a1] 30 (0, 0))) ∧ Aside0 (Below w.heap.size w wc))
              case first =>
                have H := HC56.out
                clear HC56
                have H' := Aside0.mk H
                clear H
                go_wp2
                go_loopg [9] kj5 (fun kq v9 w' => ∃ (x9_2 : Int), v9 = .int .i64 x9_2 ∧ Aside0 (impl_one.l1 kq a0 a1 x9_2 0 (⟨#[]⟩ : ByteArray) 0 a1 = some (r1, r2, r3, r4, r5)) ∧ Aside0 (kq ≤ kj5) ∧ Aside0 (w'.heap[gb150]? = some (.cells #[.int .i64 0, .string (⟨#[]⟩ : ByteArray), .int .i64 0, .int .i64 0] 30 (0, 0))) ∧ Aside0 (w'.heap[gb151]? = some (.cells #[.int .i64 0, .string (⟨#[]⟩ : ByteArray), .int .i64 0, .int .i64 a1] 30 (0, 0))) ∧ Aside0 (Below w.heap.size w w'))
                case atStart => exact ⟨(a1), (by first | rfl | (simp; done) | (simp [*]; done)), H', ⟨Nat.le_refl _⟩, ⟨by (with_reducible repeat (first | refine blk_drewN ?_ _ | refine blk_drew ?_ | refine blk_alloc ?_ _)); exact BK150.out⟩, ⟨by (with_reducible repeat (first | refine blk_drewN ?_ _ | refine blk_drew ?_ | refine blk_alloc ?_ _)); exact BK151.out⟩, ⟨by repeat (first | (with_reducible first | exact HB.out | apply below_alloc | apply pw_below_drewN | apply below_drew1 | refine below_set ?_ GE150.out | refine below_set ?_ GE151.out) | exact HB.out)⟩⟩
                case round =>
                  clear H'
                  try clear c1
                  try clear p1
                  try clear q1
                  try clear hx1
                  try clear c2
                  try clear p2
                  try clear q2
                  try clear hx2
                  try clear c3
                  try clear c3b0
                  try clear c4
                  try clear c4b0
                  try clear c5
                  try clear p5
                  try clear q5
                  try clear hx5
                  try clear p6
                  try clear c9
                  try clear c11
                  try clear c12
                  try clear c13
                  try clear c14
                  try clear c14b0
                  try clear c15
                  try clear c15b0
                  try clear p16
                  try clear q16
                  try clear hx16
                  try clear c18
                  try clear c19
                  try clear p19
                  try clear q19
                  try clear hx19
                  try clear c20
                  try clear c21
                  try clear p22
                  try clear q22
                  try clear hx22
                  try clear c23
                  try clear c23b0
                  try clear c23b1
                  try clear p24
                  try clear q24
                  try clear hx24
                  try clear c25
                  try clear c25b0
                  try clear c25b1
                  try clear p26
                  try clear q26
                  try clear hx26
                  try clear c27
                  try clear c27b0
                  try clear c27b1
                  try clear c28
                  try clear c28b0
                  try clear c29
                  try clear c32
                  try clear c32b0
                  try clear c32b1
                  try clear c33
                  try clear c33b0
                  try clear c33b1
                  try clear c34
                  try clear c34b0
                  try clear c34b1
                  try clear c38
                  try clear c41
                  try clear c41b0
                  try clear c42
                  try clear c45
                  try clear c45b0
                  try clear c45b1
                  try clear c46
                  try clear c46b0
                  try clear c46b1
                  try clear c47
                  try clear c47b0
                  try clear c47b1
                  try clear c51
                  try clear c55
                  try clear hcz10_0
                  try clear hcz10_1
                  try clear hcz10_2
                  try clear hcz10_3
                  try clear hcz30_0
                  try clear hcz30_1
                  try clear hcz30_2
                  try clear hcz30_3
                  try clear hcz31_0
                  try clear hcz31_1
                  try clear hcz31_2
                  try clear hcz31_3
                  try clear hcz39_0
                  try clear hcz39_1
                  try clear hcz39_2
                  try clear hcz39_3
                  try clear hcz40_0
                  try clear hcz40_1
                  try clear hcz40_2
                  try clear hcz40_3
                  try clear hcz43_0
                  try clear hcz43_1
                  try clear hcz43_2
                  try clear hcz43_3
                  try clear hcz44_0
                  try clear hcz44_1
                  try clear hcz44_2
                  try clear hcz44_3
                  try clear hcz52_0
                  try clear hcz52_1
                  try clear hcz52_2
                  try clear hcz52_3
                  try clear hcz53_0
                  try clear hcz53_1
                  try clear hcz53_2
                  try clear hcz53_3
                  try clear hfz10_0
                  try clear hfz10_1
                  try clear hfz10_2
                  try clear hfz10_3
                  try clear hfz30_0
                  try clear hfz30_1
                  try clear hfz30_2
                  try clear hfz30_3
                  try clear hfz31_0
                  try clear hfz31_1
                  try clear hfz31_2
                  try clear hfz31_3
                  try clear hfz39_0
                  try clear hfz39_1
                  try clear hfz39_2
                  try clear hfz39_3
                  try clear hfz40_0
                  try clear hfz40_1
                  try clear hfz40_2
                  try clear hfz40_3
                  try clear hfz43_0
                  try clear hfz43_1
                  try clear hfz43_2
                  try clear hfz43_3
                  try clear hfz44_0
                  try clear hfz44_1
                  try clear hfz44_2
                  try clear hfz44_3
                  try clear hfz52_0
                  try clear hfz52_1
                  try clear hfz52_2
                  try clear hfz52_3
                  try clear hfz53_0
                  try clear hfz53_1
                  try clear hfz53_2
                  try clear hfz53_3
                  try clear p16
                  try clear p19
                  try clear p2
                  try clear p22
                  try clear p24
                  try clear p26
                  try clear p5
                  try clear q16
                  try clear q19
                  try clear q22
                  try clear q24
                  try clear q26
                  try clear q5
                  obtain ⟨x9_2, rfl, HA, HK2, BK150, BK151, HB⟩ := hrel
                  cases gk with
                  | zero => exact absurd HA.out (by simp [impl_one.l1])
                  | succ k2 =>
                    have H := HA.out
                    clear HA
                    simp only [impl_one.l1] at H
                    by_cases c57 : x9_2 < (a0.size : Int)
                    · rw [if_pos c57] at H
                      have c57b0 : decide (x9_2 < (a0.size : Int)) = true := decide_eq_true c57
                      clear c57
                      (first | rw [c57b0] | (simp only [i64_w, i32_w]; rw [c57b0]) | skip)
                      by_cases c58 : 0 ≤ x9_2
                      · rw [if_pos c58] at H
                        have c58b0 : decide (0 ≤ x9_2) = true := decide_eq_true c58
                        clear c58
                        replace H := Option.bind_eq_some_iff.mp H
                        obtain ⟨t156, A600, H⟩ := H
                        replace H : (if t156 = true then (impl_one.l1 k2 a0 a1 (wrap64 (x9_2 + 1)) 0 (⟨#[]⟩ : ByteArray) 0 a1) else (impl_one.j3 k2 a0 a1 x9_2 0 (⟨#[]⟩ : ByteArray) 0 a1)) = some (r1, r2, r3, r4, r5) := H
                        have A60 := Aside0.mk A600
                        clear A600
                        by_cases c61 : t156 = true
                        · subst c61
                          have H1 : (impl_one.l1 k2 a0 a1 (wrap64 (x9_2 + 1)) 0 (⟨#[]⟩ : ByteArray) 0 a1) = some (r1, r2, r3, r4, r5) := by rw [if_pos rfl] at H; exact H
                          clear H
                          have H := H1
                          clear H1
                          have H' := Aside0.mk H
                          clear H
                          have p59 : 0 ≤ (x9_2 : Int) := of_decide_eq_true (by first | (with_reducible assumption) | assumption)
                          have q59 : x9_2 < (a0.size : Int) := of_decide_eq_true (by first | (with_reducible assumption) | assumption)
                          have hx59 := bt_at a0 x9_2
                          replace p59 := eq_true p59
                          replace q59 := eq_true q59
                          go_wp2_with (first | (go_at_call 20; (with_reducible refine (impl_digit.calls (bt a0 x9_2) true _ A60.out).mono ?_); rintro e w' ⟨rfl, ⟨nd, rfl⟩⟩))
                          go_roundg k2
                          case measure => have := HJ5.out; have := HK2.out; omega
                          case rel => exact ⟨(wrap64 (x9_2 + 1)), (by first | rfl | (simp; done) | (simp [*]; done)), H', ⟨by have := HJ5.out; have := HK2.out; omega⟩, ⟨by (with_reducible repeat (first | refine blk_drewN ?_ _ | refine blk_drew ?_ | refine blk_alloc ?_ _)); exact BK150.out⟩, ⟨by (with_reducible repeat (first | refine blk_drewN ?_ _ | refine blk_drew ?_ | refine blk_alloc ?_ _)); exact BK151.out⟩, ⟨by repeat (first | (with_reducible first | exact HB.out | apply below_alloc | apply pw_below_drewN | apply below_drew1 | refine below_set ?_ GE150.out | refine below_set ?_ GE151.out) | exact HB.out)⟩⟩
                        · replace c61 := Bool.eq_false_iff.mpr c61
                          subst c61
                          have H1 : (impl_one.j3 k2 a0 a1 x9_2 0 (⟨#[]⟩ : ByteArray) 0 a1) = some (r1, r2, r3, r4, r5) := by rw [if_neg (show ¬ (false = true) by decide)] at H; exact H
                          clear H
                          have H := H1
                          clear H1
                          have H' := Aside0.mk H
                          clear H
                          have p59 : 0 ≤ (x9_2 : Int) := of_decide_eq_true (by first | (with_reducible assumption) | assumption)
                          have q59 : x9_2 < (a0.size : Int) := of_decide_eq_true (by first | (with_reducible assumption) | assumption)
                          have hx59 := bt_at a0 x9_2
                          replace p59 := eq_true p59
                          replace q59 := eq_true q59
                          go_wp2_with (first | (go_at_call 20; (with_reducible refine (impl_digit.calls (bt a0 x9_2) false _ A60.out).mono ?_); rintro e w' ⟨rfl, ⟨nd, rfl⟩⟩))
                          go_meet
                          case rel => exact ⟨_, (x9_2), (by first | rfl | (simp; done) | (simp [*]; done)), H', ⟨by have := HJ5.out; have := HK2.out; first | omega | exact Nat.le_refl _⟩, ⟨by (with_reducible repeat (first | refine blk_drewN ?_ _ | refine blk_drew ?_ | refine blk_alloc ?_ _)); exact BK150.out⟩, ⟨by (with_reducible repeat (first | refine blk_drewN ?_ _ | refine blk_drew ?_ | refine blk_alloc ?_ _)); exact BK151.out⟩, ⟨by repeat (first | (with_reducible first | exact HB.out | apply below_alloc | apply pw_below_drewN | apply below_drew1 | refine below_set ?_ GE150.out | refine below_set ?_ GE151.out) | exact HB.out)⟩⟩
                      · rw [if_neg c58] at H
                        exact absurd H (by simp)
                    · rw [if_neg c57] at H
                      have c57b0 : decide (x9_2 < (a0.size : Int)) = false := decide_eq_false c57
                      clear c57
                      (first | rw [c57b0] | (simp only [i64_w, i32_w]; rw [c57b0]) | skip)
                      have H' := Aside0.mk H
                      clear H
                      go_wp2
                      go_meet
                      case rel => exact ⟨_, (x9_2), (by first | rfl | (simp; done) | (simp [*]; done)), H', ⟨by have := HJ5.out; have := HK2.out; first | omega | exact Nat.le_refl _⟩, ⟨by (with_reducible repeat (first | refine blk_drewN ?_ _ | refine blk_drew ?_ | refine blk_alloc ?_ _)); exact BK150.out⟩, ⟨by (with_reducible repeat (first | refine blk_drewN ?_ _ | refine blk_drew ?_ | refine blk_alloc ?_ _)); exact BK151.out⟩, ⟨by repeat (first | (with_reducible first | exact HB.out | apply below_alloc | apply pw_below_drewN | apply below_drew1 | refine below_set ?_ GE150.out | refine below_set ?_ GE151.out) | exact HB.out)⟩⟩
              case rest =>
                clear HC56
                try clear c1
                try clear p1
                try clear q1
                try clear hx1
                try clear c2
                try clear p2
                try clear q2
                try clear hx2
                try clear c3
                try clear c3b0
                try clear c4
                try clear c4b0
                try clear c5
                try clear p5
                try clear q5
                try clear hx5
                try clear c6
                try clear p6
                try clear c9
                try clear c11
                try clear c12
                try clear c13
                try clear c14
                try clear c14b0
                try clear c15
                try clear c15b0
                try clear p16
                try clear q16
                try clear hx16
                try clear c18
                try clear c19
                try clear p19
                try clear q19
                try clear hx19
                try clear c20
                try clear c21
                try clear p22
                try clear q22
                try clear hx22
                try clear c23
                try clear c23b0
                try clear c23b1
                try clear p24
                try clear q24
                try clear hx24
                try clear c25
                try clear c25b0
                try clear c25b1
                try clear p26
                try clear q26
                try clear hx26
                try clear c27
                try clear c27b0
                try clear c27b1
                try clear c28
                try clear c28b0
                try clear c29
                try clear c32
                try clear c32b0
                try clear c32b1
                try clear c33
                try clear c33b0
                try clear c33b1
                try clear c34
                try clear c34b0
                try clear c34b1
                try clear c38
                try clear c41
                try clear c41b0
                try clear c42
                try clear c45
                try clear c45b0
                try clear c45b1
                try clear c46
                try clear c46b0
                try clear c46b1
                try clear c47
                try clear c47b0
                try clear c47b1
                try clear c51
                try clear c55
                try clear c57
                try clear c57b0
                try clear c58
                try clear c58b0
                try clear p59
                try clear q59
                try clear hx59
                try clear c61
                try clear hcz10_0
                try clear hcz10_1
                try clear hcz10_2
                try clear hcz10_3
                try clear hcz30_0
                try clear hcz30_1
                try clear hcz30_2
                try clear hcz30_3
                try clear hcz31_0
                try clear hcz31_1
                try clear hcz31_2
                try clear hcz31_3
                try clear hcz39_0
                try clear hcz39_1
                try clear hcz39_2
                try clear hcz39_3
                try clear hcz40_0
                try clear hcz40_1
                try clear hcz40_2
                try clear hcz40_3
                try clear hcz43_0
                try clear hcz43_1
                try clear hcz43_2
                try clear hcz43_3
                try clear hcz44_0
                try clear hcz44_1
                try clear hcz44_2
                try clear hcz44_3
                try clear hcz52_0
                try clear hcz52_1
                try clear hcz52_2
                try clear hcz52_3
                try clear hcz53_0
                try clear hcz53_1
                try clear hcz53_2
                try clear hcz53_3
                try clear hfz10_0
                try clear hfz10_1
                try clear hfz10_2
                try clear hfz10_3
                try clear hfz30_0
                try clear hfz30_1
                try clear hfz30_2
                try clear hfz30_3
                try clear hfz31_0
                try clear hfz31_1
                try clear hfz31_2
                try clear hfz31_3
                try clear hfz39_0
                try clear hfz39_1
                try clear hfz39_2
                try clear hfz39_3
                try clear hfz40_0
                try clear hfz40_1
                try clear hfz40_2
                try clear hfz40_3
                try clear hfz43_0
                try clear hfz43_1
                try clear hfz43_2
                try clear hfz43_3
                try clear hfz44_0
                try clear hfz44_1
                try clear hfz44_2
                try clear hfz44_3
                try clear hfz52_0
                try clear hfz52_1
                try clear hfz52_2
                try clear hfz52_3
                try clear hfz53_0
                try clear hfz53_1
                try clear hfz53_2
                try clear hfz53_3
                try clear p1
                try clear p16
                try clear p19
                try clear p2
                try clear p22
                try clear p24
                try clear p26
                try clear p5
                try clear p59
                try clear p6
                try clear q1
                try clear q16
                try clear q19
                try clear q2
                try clear q22
                try clear q24
                try clear q26
                try clear q5
                try clear q59
                obtain ⟨kq, x9_55, rfl, HA, HJ55, BK150, BK151, HB⟩ := hcut
                cases kq with
                | zero => exact absurd HA.out (by simp [impl_one.j3])
                | succ kj55 =>
                  have H := HA.out
                  clear HA
                  simp only [impl_one.j3] at H
                  by_cases c62 : 0 ≤ a1
                  · rw [if_pos c62] at H
                    have c62b0 := eq_true c62
                    have c62b1 : decide (0 ≤ a1) = true := decide_eq_true c62
                    clear c62
                    by_cases c63 : a1 ≤ x9_55
                    · rw [if_pos c63] at H
                      have c63b0 := eq_true c63
                      have c63b1 : decide (a1 ≤ x9_55) = true := decide_eq_true c63
                      clear c63
                      by_cases c64 : x9_55 ≤ (a0.size : Int)
                      · rw [if_pos c64] at H
                        have c64b0 := eq_true c64
                        have c64b1 : decide (x9_55 ≤ (a0.size : Int)) = true := decide_eq_true c64
                        clear c64
                        replace H := Option.bind_eq_some_iff.mp H
                        obtain ⟨t157, A650, H⟩ := H
                        replace H : (if (t157.size : Int) > 16 then (some (0, (⟨#[]⟩ : ByteArray), 0, a1, 0)) else (if 1 + t157.size ≤ 9223372036854775807 then ((strconv_ParseInt.f ((⟨#[48]⟩ : ByteArray) ++ t157) 10 64).bind fun bt158 => (if bt158.1 > 9007199254740992 then (some (0, (⟨#[]⟩ : ByteArray), 0, a1, 0)) else (some (2, (⟨#[]⟩ : ByteArray), bt158.1, a1, wrap64 (x9_55 - a1))))) else (none))) = some (r1, r2, r3, r4, r5) := H
                        have A65 := Aside0.mk A650
                        clear A650
                        by_cases c66 : (t157.size : Int) > 16
                        · rw [if_pos c66] at H
                          have c66b0 : decide (16 < (t157.size : Int)) = true := decide_eq_true c66
                          have c66b1 : decide (16 < t157.size) = true := decide_eq_true (by omega)
                          clear c66
                          simp only [Option.some.injEq, Prod.mk.injEq] at H
                          obtain ⟨rfl, rfl, rfl, rfl, rfl⟩ := H
                          go_wp2_with (first | ((with_reducible refine gate_callee (f := 21) rfl ?_); refine goesL_ (some 103) rfl rfl Tryd.func21 (by kernel_rfl) rfl #[.string (a0.extract (a1 : Int).toNat (x9_55 : Int).toNat), .string (⟨#[48]⟩ : ByteArray)] rfl (by (try simp only [List.map_toArray, List.map_cons, List.map_nil]); first | done | rfl | (simp only [List.length_drop, List.length_take]; rfl)) ?_; (with_reducible refine (strings_TrimLeft.calls (a0.extract (a1 : Int).toNat (x9_55 : Int).toNat) (⟨#[48]⟩ : ByteArray) t157 _ A65.out).mono ?_); rintro e w' ⟨rfl, ⟨nd, rfl⟩⟩; refine ⟨_, rfl, ?_⟩; (try (rw [drewN_self wc]; generalize hq_ : World.drewN wc _ = wc; have n0_ : Aside0 (wc.heap[gb150]? = some (.cells #[.int .i64 0, .string (⟨#[]⟩ : ByteArray), .int .i64 0, .int .i64 0] 30 (0, 0))) := ⟨by rw [← hq_]; exact (by (with_reducible repeat (first | refine blk_drewN ?_ _ | refine blk_drew ?_ | refine blk_alloc ?_ _)); exact BK150.out)⟩; have n1_ : Aside0 (wc.heap[gb151]? = some (.cells #[.int .i64 0, .string (⟨#[]⟩ : ByteArray), .int .i64 0, .int .i64 a1] 30 (0, 0))) := ⟨by rw [← hq_]; exact (by (with_reducible repeat (first | refine blk_drewN ?_ _ | refine blk_drew ?_ | refine blk_alloc ?_ _)); exact BK151.out)⟩; have n2_ : Aside0 (Below w.heap.size w wc) := ⟨by rw [← hq_]; exact (by repeat (first | (with_reducible first | exact HB.out | apply below_alloc | apply pw_below_drewN | apply below_drew1 | refine below_set ?_ GE150.out | refine below_set ?_ GE151.out) | exact HB.out))⟩; clear BK150 BK151 HB hq_; have BK150 := n0_; have BK151 := n1_; have HB := n2_; clear n0_ n1_ n2_)); have hnb67 := NB151_150.out; have hnc67 := NB150_151.out; have hcz68_0 : wc.cell? ⟨gb151, 0, none⟩ = some (.int .i64 0) := (blk_cell BK151.out 0).trans rfl; have hcz68_1 : wc.cell? ⟨gb151, 1, none⟩ = some (.string (⟨#[]⟩ : ByteArray)) := (blk_cell BK151.out 1).trans rfl; have hcz68_2 : wc.cell? ⟨gb151, 2, none⟩ = some (.int .i64 0) := (blk_cell BK151.out 2).trans rfl; have hcz68_3 : wc.cell? ⟨gb151, 3, none⟩ = some (.int .i64 a1) := (blk_cell BK151.out 3).trans rfl; have hfz68_0 := blk_frozen BK151.out 0; have hfz68_1 := blk_frozen BK151.out 1; have hfz68_2 := blk_frozen BK151.out 2; have hfz68_3 := blk_frozen BK151.out 3; have hcz69_0 : wc.cell? ⟨gb150, 0, none⟩ = some (.int .i64 0) := (blk_cell BK150.out 0).trans rfl; have hcz69_1 : wc.cell? ⟨gb150, 1, none⟩ = some (.string (⟨#[]⟩ : ByteArray)) := (blk_cell BK150.out 1).trans rfl; have hcz69_2 : wc.cell? ⟨gb150, 2, none⟩ = some (.int .i64 0) := (blk_cell BK150.out 2).trans rfl; have hcz69_3 : wc.cell? ⟨gb150, 3, none⟩ = some (.int .i64 0) := (blk_cell BK150.out 3).trans rfl; have hfz69_0 := blk_frozen BK150.out 0; have hfz69_1 := blk_frozen BK150.out 1; have hfz69_2 := blk_frozen BK150.out 2; have hfz69_3 := blk_frozen BK150.out 3))
                          refine bodyPost_ret (results_ct rfl _ _ gb150 30 #[.int .i64 0, .string (⟨#[]⟩ : ByteArray), .int .i64 0, .int .i64 a1] (0, 0) _ rfl (by (with_reducible repeat (first | refine blk_drewN ?_ _ | refine blk_drew ?_ | refine blk_alloc ?_ _)); refine blk_put (cs := #[.int .i64 0, .string (⟨#[]⟩ : ByteArray), .int .i64 0, .int .i64 0]) ?_ 3 _ rfl; (with_reducible repeat (first | refine blk_drewN ?_ _ | refine blk_drew ?_ | refine blk_alloc ?_ _)); refine blk_put (cs := #[.int .i64 0, .string (⟨#[]⟩ : ByteArray), .int .i64 0, .int .i64 0]) ?_ 2 _ rfl; (with_reducible repeat (first | refine blk_drewN ?_ _ | refine blk_drew ?_ | refine blk_alloc ?_ _)); refine blk_put (cs := #[.int .i64 0, .string (⟨#[]⟩ : ByteArray), .int .i64 0, .int .i64 0]) ?_ 1 _ rfl; (with_reducible repeat (first | refine blk_drewN ?_ _ | refine blk_drew ?_ | refine blk_alloc ?_ _)); refine blk_put (cs := #[.int .i64 0, .string (⟨#[]⟩ : ByteArray), .int .i64 0, .int .i64 0]) ?_ 0 _ rfl; (with_reducible repeat (first | refine blk_drewN ?_ _ | refine blk_drew ?_ | refine blk_alloc ?_ _)); exact BK150.out) Tryd.underlying30 rfl (by kernel_rfl)) rfl ?_
                          exact ⟨by first | rfl | (simp [errW_none, errW_some] <;> rfl) | (simp [*, errW_none, errW_some] <;> rfl), by repeat (first | (with_reducible first | exact HB.out | apply below_alloc | apply pw_below_drewN | apply below_drew1 | refine below_set ?_ GE150.out | refine below_set ?_ GE151.out) | exact HB.out)⟩
                        · rw [if_neg c66] at H
                          have c66b0 : decide (16 < (t157.size : Int)) = false := decide_eq_false c66
                          have c66b1 : decide (16 < t157.size) = false := decide_eq_false (by omega)
                          clear c66
                          by_cases c70 : 1 + t157.size ≤ 9223372036854775807
                          · rw [if_pos c70] at H
                            have c70b0 := eq_true c70
                            have c70b1 : decide (1 + t157.size ≤ 9223372036854775807) = true := decide_eq_true c70
                            try have c70b2 : (9223372036854775807 < 1 + t157.size) = False := eq_false (Nat.not_lt.2 c70)
                            replace H := Option.bind_eq_some_iff.mp H
                            obtain ⟨⟨t158, t159⟩, A710, H⟩ := H
                            replace H : (if t158 > 9007199254740992 then (some (0, (⟨#[]⟩ : ByteArray), 0, a1, 0)) else (some (2, (⟨#[]⟩ : ByteArray), t158, a1, wrap64 (x9_55 - a1)))) = some (r1, r2, r3, r4, r5) := H
                            have A71 := Aside0.mk A710
                            clear A710
                            by_cases c72 : t158 > 9007199254740992
                            · rw [if_pos c72] at H
                              have c72b0 : decide (9007199254740992 < t158) = true := decide_eq_true c72
                              clear c72
                              simp only [Option.some.injEq, Prod.mk.injEq] at H
                              obtain ⟨rfl, rfl, rfl, rfl, rfl⟩ := H
                              go_wp2_with (first | ((with_reducible refine gate_callee (f := 21) rfl ?_); refine goesL_ (some 103) rfl rfl Tryd.func21 (by kernel_rfl) rfl #[.string (a0.extract (a1 : Int).toNat (x9_55 : Int).toNat), .string (⟨#[48]⟩ : ByteArray)] rfl (by (try simp only [List.map_toArray, List.map_cons, List.map_nil]); first | done | rfl | (simp only [List.length_drop, List.length_take]; rfl)) ?_; (with_reducible refine (strings_TrimLeft.calls (a0.extract (a1 : Int).toNat (x9_55 : Int).toNat) (⟨#[48]⟩ : ByteArray) t157 _ A65.out).mono ?_); rintro e w' ⟨rfl, ⟨nd, rfl⟩⟩; refine ⟨_, rfl, ?_⟩; (try (rw [drewN_self wc]; generalize hq_ : World.drewN wc _ = wc; have n0_ : Aside0 (wc.heap[gb150]? = some (.cells #[.int .i64 0, .string (⟨#[]⟩ : ByteArray), .int .i64 0, .int .i64 0] 30 (0, 0))) := ⟨by rw [← hq_]; exact (by (with_reducible repeat (first | refine blk_drewN ?_ _ | refine blk_drew ?_ | refine blk_alloc ?_ _)); exact BK150.out)⟩; have n1_ : Aside0 (wc.heap[gb151]? = some (.cells #[.int .i64 0, .string (⟨#[]⟩ : ByteArray), .int .i64 0, .int .i64 a1] 30 (0, 0))) := ⟨by rw [← hq_]; exact (by (with_reducible repeat (first | refine blk_drewN ?_ _ | refine blk_drew ?_ | refine blk_alloc ?_ _)); exact BK151.out)⟩; have n2_ : Aside0 (Below w.heap.size w wc) := ⟨by rw [← hq_]; exact (by repeat (first | (with_reducible first | exact HB.out | apply below_alloc | apply pw_below_drewN | apply below_drew1 | refine below_set ?_ GE150.out | refine below_set ?_ GE151.out) | exact HB.out))⟩; clear BK150 BK151 HB hq_; have BK150 := n0_; have BK151 := n1_; have HB := n2_; clear n0_ n1_ n2_))) | ((with_reducible refine gate_callee (f := 22) rfl ?_); refine goesL_ (some 111) rfl rfl Tryd.func22 (by kernel_rfl) rfl #[.string ((⟨#[48]⟩ : ByteArray) ++ t157), .int .i64 10, .int .i64 64] rfl (by (try simp only [List.map_toArray, List.map_cons, List.map_nil]); first | done | rfl | (simp only [List.length_drop, List.length_take]; rfl)) ?_; (with_reducible refine (strconv_ParseInt.calls ((⟨#[48]⟩ : ByteArray) ++ t157) 10 64 t158 t159 _ A71.out).mono ?_); rintro e w73 ⟨rfl, hb⟩; refine ⟨_, rfl, ?_⟩; have n0_ := Aside0.mk (blk_below (g := gb150) (o := .cells #[.int .i64 0, .string (⟨#[]⟩ : ByteArray), .int .i64 0, .int .i64 0] 30 (0, 0)) (by (with_reducible repeat (first | refine blk_drewN ?_ _ | refine blk_drew ?_ | refine blk_alloc ?_ _)); exact BK150.out) hb); have n1_ := Aside0.mk (blk_below (g := gb151) (o := .cells #[.int .i64 0, .string (⟨#[]⟩ : ByteArray), .int .i64 0, .int .i64 a1] 30 (0, 0)) (by (with_reducible repeat (first | refine blk_drewN ?_ _ | refine blk_drew ?_ | refine blk_alloc ?_ _)); exact BK151.out) hb); have n2_ := Aside0.mk (below_step (by repeat (first | (with_reducible first | exact HB.out | apply below_alloc | apply pw_below_drewN | apply below_drew1 | refine below_set ?_ GE150.out | refine below_set ?_ GE151.out) | exact HB.out)) hb); clear BK150; clear BK151; clear HB; have BK150 := n0_; have BK151 := n1_; have HB := n2_; clear n0_ n1_ n2_; (try clear hb); (try clear hb2); (try clear hk); (try clear hi); (try simp only [errW_none, errW_some]); have hnb74 := NB151_150.out; have hnc74 := NB150_151.out; have hcz75_0 : w73.cell? ⟨gb151, 0, none⟩ = some (.int .i64 0) := (blk_cell BK151.out 0).trans rfl; have hcz75_1 : w73.cell? ⟨gb151, 1, none⟩ = some (.string (⟨#[]⟩ : ByteArray)) := (blk_cell BK151.out 1).trans rfl; have hcz75_2 : w73.cell? ⟨gb151, 2, none⟩ = some (.int .i64 0) := (blk_cell BK151.out 2).trans rfl; have hcz75_3 : w73.cell? ⟨gb151, 3, none⟩ = some (.int .i64 a1) := (blk_cell BK151.out 3).trans rfl; have hfz75_0 := blk_frozen BK151.out 0; have hfz75_1 := blk_frozen BK151.out 1; have hfz75_2 := blk_frozen BK151.out 2; have hfz75_3 := blk_frozen BK151.out 3; have hcz76_0 : w73.cell? ⟨gb150, 0, none⟩ = some (.int .i64 0) := (blk_cell BK150.out 0).trans rfl; have hcz76_1 : w73.cell? ⟨gb150, 1, none⟩ = some (.string (⟨#[]⟩ : ByteArray)) := (blk_cell BK150.out 1).trans rfl; have hcz76_2 : w73.cell? ⟨gb150, 2, none⟩ = some (.int .i64 0) := (blk_cell BK150.out 2).trans rfl; have hcz76_3 : w73.cell? ⟨gb150, 3, none⟩ = some (.int .i64 0) := (blk_cell BK150.out 3).trans rfl; have hfz76_0 := blk_frozen BK150.out 0; have hfz76_1 := blk_frozen BK150.out 1; have hfz76_2 := blk_frozen BK150.out 2; have hfz76_3 := blk_frozen BK150.out 3))
                              refine bodyPost_ret (results_ct rfl _ _ gb150 30 #[.int .i64 0, .string (⟨#[]⟩ : ByteArray), .int .i64 0, .int .i64 a1] (0, 0) _ rfl (by (with_reducible repeat (first | refine blk_drewN ?_ _ | refine blk_drew ?_ | refine blk_alloc ?_ _)); refine blk_put (cs := #[.int .i64 0, .string (⟨#[]⟩ : ByteArray), .int .i64 0, .int .i64 0]) ?_ 3 _ rfl; (with_reducible repeat (first | refine blk_drewN ?_ _ | refine blk_drew ?_ | refine blk_alloc ?_ _)); refine blk_put (cs := #[.int .i64 0, .string (⟨#[]⟩ : ByteArray), .int .i64 0, .int .i64 0]) ?_ 2 _ rfl; (with_reducible repeat (first | refine blk_drewN ?_ _ | refine blk_drew ?_ | refine blk_alloc ?_ _)); refine blk_put (cs := #[.int .i64 0, .string (⟨#[]⟩ : ByteArray), .int .i64 0, .int .i64 0]) ?_ 1 _ rfl; (with_reducible repeat (first | refine blk_drewN ?_ _ | refine blk_drew ?_ | refine blk_alloc ?_ _)); refine blk_put (cs := #[.int .i64 0, .string (⟨#[]⟩ : ByteArray), .int .i64 0, .int .i64 0]) ?_ 0 _ rfl; (with_reducible repeat (first | refine blk_drewN ?_ _ | refine blk_drew ?_ | refine blk_alloc ?_ _)); exact BK150.out) Tryd.underlying30 rfl (by kernel_rfl)) rfl ?_
                              exact ⟨by first | rfl | (simp [errW_none, errW_some] <;> rfl) | (simp [*, errW_none, errW_some] <;> rfl), by repeat (first | (with_reducible first | exact HB.out | apply below_alloc | apply pw_below_drewN | apply below_drew1 | refine below_set ?_ GE150.out | refine below_set ?_ GE151.out) | exact HB.out)⟩
                            · rw [if_neg c72] at H
                              have c72b0 : decide (9007199254740992 < t158) = false := decide_eq_false c72
                              clear c72
                              simp only [Option.some.injEq, Prod.mk.injEq] at H
                              obtain ⟨rfl, rfl, rfl, rfl, rfl⟩ := H
                              go_wp2_with (first | ((with_reducible refine gate_callee (f := 21) rfl ?_); refine goesL_ (some 103) rfl rfl Tryd.func21 (by kernel_rfl) rfl #[.string (a0.extract (a1 : Int).toNat (x9_55 : Int).toNat), .string (⟨#[48]⟩ : ByteArray)] rfl (by (try simp only [List.map_toArray, List.map_cons, List.map_nil]); first | done | rfl | (simp only [List.length_drop, List.length_take]; rfl)) ?_; (with_reducible refine (strings_TrimLeft.calls (a0.extract (a1 : Int).toNat (x9_55 : Int).toNat) (⟨#[48]⟩ : ByteArray) t157 _ A65.out).mono ?_); rintro e w' ⟨rfl, ⟨nd, rfl⟩⟩; refine ⟨_, rfl, ?_⟩; (try (rw [drewN_self wc]; generalize hq_ : World.drewN wc _ = wc; have n0_ : Aside0 (wc.heap[gb150]? = some (.cells #[.int .i64 0, .string (⟨#[]⟩ : ByteArray), .int .i64 0, .int .i64 0] 30 (0, 0))) := ⟨by rw [← hq_]; exact (by (with_reducible repeat (first | refine blk_drewN ?_ _ | refine blk_drew ?_ | refine blk_alloc ?_ _)); exact BK150.out)⟩; have n1_ : Aside0 (wc.heap[gb151]? = some (.cells #[.int .i64 0, .string (⟨#[]⟩ : ByteArray), .int .i64 0, .int .i64 a1] 30 (0, 0))) := ⟨by rw [← hq_]; exact (by (with_reducible repeat (first | refine blk_drewN ?_ _ | refine blk_drew ?_ | refine blk_alloc ?_ _)); exact BK151.out)⟩; have n2_ : Aside0 (Below w.heap.size w wc) := ⟨by rw [← hq_]; exact (by repeat (first | (with_reducible first | exact HB.out | apply below_alloc | apply pw_below_drewN | apply below_drew1 | refine below_set ?_ GE150.out | refine below_set ?_ GE151.out) | exact HB.out))⟩; clear BK150 BK151 HB hq_; have BK150 := n0_; have BK151 := n1_; have HB := n2_; clear n0_ n1_ n2_))) | ((with_reducible refine gate_callee (f := 22) rfl ?_); refine goesL_ (some 111) rfl rfl Tryd.func22 (by kernel_rfl) rfl #[.string ((⟨#[48]⟩ : ByteArray) ++ t157), .int .i64 10, .int .i64 64] rfl (by (try simp only [List.map_toArray, List.map_cons, List.map_nil]); first | done | rfl | (simp only [List.length_drop, List.length_take]; rfl)) ?_; (with_reducible refine (strconv_ParseInt.calls ((⟨#[48]⟩ : ByteArray) ++ t157) 10 64 t158 t159 _ A71.out).mono ?_); rintro e w77 ⟨rfl, hb⟩; refine ⟨_, rfl, ?_⟩; have n0_ := Aside0.mk (blk_below (g := gb150) (o := .cells #[.int .i64 0, .string (⟨#[]⟩ : ByteArray), .int .i64 0, .int .i64 0] 30 (0, 0)) (by (with_reducible repeat (first | refine blk_drewN ?_ _ | refine blk_drew ?_ | refine blk_alloc ?_ _)); exact BK150.out) hb); have n1_ := Aside0.mk (blk_below (g := gb151) (o := .cells #[.int .i64 0, .string (⟨#[]⟩ : ByteArray), .int .i64 0, .int .i64 a1] 30 (0, 0)) (by (with_reducible repeat (first | refine blk_drewN ?_ _ | refine blk_drew ?_ | refine blk_alloc ?_ _)); exact BK151.out) hb); have n2_ := Aside0.mk (below_step (by repeat (first | (with_reducible first | exact HB.out | apply below_alloc | apply pw_below_drewN | apply below_drew1 | refine below_set ?_ GE150.out | refine below_set ?_ GE151.out) | exact HB.out)) hb); clear BK150; clear BK151; clear HB; have BK150 := n0_; have BK151 := n1_; have HB := n2_; clear n0_ n1_ n2_; (try clear hb); (try clear hb2); (try clear hk); (try clear hi); (try simp only [errW_none, errW_some]); have hnb78 := NB151_150.out; have hnc78 := NB150_151.out; have hcz79_0 : w77.cell? ⟨gb151, 0, none⟩ = some (.int .i64 0) := (blk_cell BK151.out 0).trans rfl; have hcz79_1 : w77.cell? ⟨gb151, 1, none⟩ = some (.string (⟨#[]⟩ : ByteArray)) := (blk_cell BK151.out 1).trans rfl; have hcz79_2 : w77.cell? ⟨gb151, 2, none⟩ = some (.int .i64 0) := (blk_cell BK151.out 2).trans rfl; have hcz79_3 : w77.cell? ⟨gb151, 3, none⟩ = some (.int .i64 a1) := (blk_cell BK151.out 3).trans rfl; have hfz79_0 := blk_frozen BK151.out 0; have hfz79_1 := blk_frozen BK151.out 1; have hfz79_2 := blk_frozen BK151.out 2; have hfz79_3 := blk_frozen BK151.out 3; have hcz80_0 : w77.cell? ⟨gb150, 0, none⟩ = some (.int .i64 0) := (blk_cell BK150.out 0).trans rfl; have hcz80_1 : w77.cell? ⟨gb150, 1, none⟩ = some (.string (⟨#[]⟩ : ByteArray)) := (blk_cell BK150.out 1).trans rfl; have hcz80_2 : w77.cell? ⟨gb150, 2, none⟩ = some (.int .i64 0) := (blk_cell BK150.out 2).trans rfl; have hcz80_3 : w77.cell? ⟨gb150, 3, none⟩ = some (.int .i64 0) := (blk_cell BK150.out 3).trans rfl; have hfz80_0 := blk_frozen BK150.out 0; have hfz80_1 := blk_frozen BK150.out 1; have hfz80_2 := blk_frozen BK150.out 2; have hfz80_3 := blk_frozen BK150.out 3))
                              refine bodyPost_ret (results_ct rfl _ _ gb150 30 #[.int .i64 2, .string (⟨#[]⟩ : ByteArray), .int .i64 t158, .int .i64 a1] (0, 0) _ rfl (by (with_reducible repeat (first | refine blk_drewN ?_ _ | refine blk_drew ?_ | refine blk_alloc ?_ _)); refine blk_put (cs := #[.int .i64 2, .string (⟨#[]⟩ : ByteArray), .int .i64 t158, .int .i64 0]) ?_ 3 _ rfl; (with_reducible repeat (first | refine blk_drewN ?_ _ | refine blk_drew ?_ | refine blk_alloc ?_ _)); refine blk_put (cs := #[.int .i64 2, .string (⟨#[]⟩ : ByteArray), .int .i64 0, .int .i64 0]) ?_ 2 _ rfl; (with_reducible repeat (first | refine blk_drewN ?_ _ | refine blk_drew ?_ | refine blk_alloc ?_ _)); refine blk_put (cs := #[.int .i64 2, .string (⟨#[]⟩ : ByteArray), .int .i64 0, .int .i64 0]) ?_ 1 _ rfl; (with_reducible repeat (first | refine blk_drewN ?_ _ | refine blk_drew ?_ | refine blk_alloc ?_ _)); refine blk_put (cs := #[.int .i64 0, .string (⟨#[]⟩ : ByteArray), .int .i64 0, .int .i64 0]) ?_ 0 _ rfl; (with_reducible repeat (first | refine blk_drewN ?_ _ | refine blk_drew ?_ | refine blk_alloc ?_ _)); refine blk_far ?_ NB150_151.out _; (with_reducible repeat (first | refine blk_drewN ?_ _ | refine blk_drew ?_ | refine blk_alloc ?_ _)); refine blk_far ?_ NB150_151.out _; (with_reducible repeat (first | refine blk_drewN ?_ _ | refine blk_drew ?_ | refine blk_alloc ?_ _)); exact BK150.out) Tryd.underlying30 rfl (by kernel_rfl)) rfl ?_
                              exact ⟨by first | rfl | (simp [errW_none, errW_some] <;> rfl) | (simp [*, errW_none, errW_some] <;> rfl), by repeat (first | (with_reducible first | exact HB.out | apply below_alloc | apply pw_below_drewN | apply below_drew1 | refine below_set ?_ GE150.out | refine below_set ?_ GE151.out) | exact HB.out)⟩
                          · rw [if_neg c70] at H
                            exact absurd H (by simp)
                      · rw [if_neg c64] at H
                        exact absurd H (by simp)
                    · rw [if_neg c63] at H
                      exact absurd H (by simp)
                  · rw [if_neg c62] at H
                    exact absurd H (by simp)
            · replace c55 := Bool.eq_false_iff.mpr c55
              subst c55
              have H1 : (if (bt a0 a1) = 34 then (impl_one.l2 kj5 a0 a1 ([] : List Int) (wrap64 (a1 + 1)) 0 (⟨#[]⟩ : ByteArray) 0 a1) else (impl_one.l3 kj5 a0 a1 signsL (signsL.length : Int) 0 0 (⟨#[]⟩ : ByteArray) 0 a1)) = some (r1, r2, r3, r4, r5) := by rw [if_neg (show ¬ (false = true) by decide)] at H; exact H
              clear H
              have H := H1
              clear H1
              by_cases c81 : (bt a0 a1) = 34
              · rw [if_pos c81] at H
                have c81b0 : ((bt a0 a1) == 34) = true := beq_iff_eq.mpr c81
                have c81b1 : ((bt a0 a1) != 34) = false := bne_eq_false_iff_eq.mpr c81
                clear c81
                have H' := Aside0.mk H
                clear H
                go_wp2_with (first | ((with_reducible refine gate_callee (f := 20) rfl ?_); refine goesL_ (some 85) rfl rfl Tryd.func20 (by kernel_rfl) rfl #[.int .u8 (bt a0 a1)] rfl (by (try simp only [List.map_toArray, List.map_cons, List.map_nil]); first | done | rfl | (simp only [List.length_drop, List.length_take]; rfl)) ?_; (with_reducible refine (impl_digit.calls (bt a0 a1) false _ A54.out).mono ?_); rintro e w' ⟨rfl, ⟨nd, rfl⟩⟩; refine ⟨_, rfl, ?_⟩))
                go_loopg [13, 14] kj5 (fun kq v13 v14 w' => ∃ (x13_2 : List Int) (x14_2 : Int) (x151000_2 : Int) (x151001_2 : ByteArray) (x151002_2 : Int) (x151003_2 : Int) (x152000_2 : Int) (x152001_2 : ByteArray), v14 = .int .i64 x14_2 ∧ Aside0 (impl_one.l2 kq a0 a1 x13_2 x14_2 x152000_2 x152001_2 0 a1 = some (r1, r2, r3, r4, r5)) ∧ Aside0 (kq ≤ kj5) ∧ Aside0 (Kd.R (Kd.int .u8) 5 w' w.heap.size (fun _ => True) v13 x13_2) ∧ Aside0 (w'.heap[gb150]? = some (.cells #[.int .i64 x151000_2, .string x151001_2, .int .i64 x151002_2, .int .i64 x151003_2] 30 (0, 0))) ∧ Aside0 (w'.heap[gb151]? = some (.cells #[.int .i64 x152000_2, .string x152001_2, .int .i64 0, .int .i64 a1] 30 (0, 0))) ∧ Aside0 (Below w.heap.size w w'))
                case atStart => exact ⟨(([] : List Int)), (wrap64 (a1 + 1)), (0), ((⟨#[]⟩ : ByteArray)), (0), (0), (0), ((⟨#[]⟩ : ByteArray)), (by first | rfl | (simp; done) | (simp [*]; done)), H', ⟨Nat.le_refl _⟩, ⟨by first | exact Kd.R_nil _ _ _ _ _ | exact Kd.N_nil _ _ _ _ _ | exact Kd.V_nil _ _ _ _ _ | exact Kd.Q_nil _ _ _ _ _ | exact Kd.S_nil _ _ _ _ _⟩, ⟨by (with_reducible repeat (first | refine blk_drewN ?_ _ | refine blk_drew ?_ | refine blk_alloc ?_ _)); exact BK150.out⟩, ⟨by (with_reducible repeat (first | refine blk_drewN ?_ _ | refine blk_drew ?_ | refine blk_alloc ?_ _)); exact BK151.out⟩, ⟨by repeat (first | (with_reducible first | exact HB.out | apply below_alloc | apply pw_below_drewN | apply below_drew1 | refine below_set ?_ GE150.out | refine below_set ?_ GE151.out) | exact HB.out)⟩⟩
                case round =>
                  clear H'
                  try clear c1
                  try clear p1
                  try clear q1
                  try clear hx1
                  try clear c2
                  try clear p2
                  try clear q2
                  try clear hx2
                  try clear c3
                  try clear c3b0
                  try clear c4
                  try clear c4b0
                  try clear c5
                  try clear p5
                  try clear q5
                  try clear hx5
                  try clear c6
                  try clear p6
                  try clear c7
                  try clear c8
                  try clear c9
                  try clear c11
                  try clear c12
                  try clear c13
                  try clear c14
                  try clear c14b0
                  try clear c15
                  try clear c15b0
                  try clear p16
                  try clear q16
                  try clear hx16
                  try clear c18
                  try clear c19
                  try clear p19
                  try clear q19
                  try clear hx19
                  try clear c20
                  try clear c21
                  try clear c22
                  try clear p22
                  try clear q22
                  try clear hx22
                  try clear c23
                  try clear c23b0
                  try clear c23b1
                  try clear p24
                  try clear q24
                  try clear hx24
                  try clear c25
                  try clear c25b0
                  try clear c25b1
                  try clear p26
                  try clear q26
                  try clear hx26
                  try clear c27
                  try clear c27b0
                  try clear c27b1
                  try clear c28
                  try clear c28b0
                  try clear c29
                  try clear c32
                  try clear c32b0
                  try clear c32b1
                  try clear c33
                  try clear c33b0
                  try clear c33b1
                  try clear c34
                  try clear c34b0
                  try clear c34b1
                  try clear c38
                  try clear c41
                  try clear c41b0
                  try clear c42
                  try clear c45
                  try clear c45b0
                  try clear c45b1
                  try clear c46
                  try clear c46b0
                  try clear c46b1
                  try clear c47
                  try clear c47b0
                  try clear c47b1
                  try clear c51
                  try clear c55
                  try clear c57
                  try clear c57b0
                  try clear c58
                  try clear c58b0
                  try clear p59
                  try clear q59
                  try clear hx59
                  try clear c61
                  try clear c62
                  try clear c62b0
                  try clear c62b1
                  try clear c63
                  try clear c63b0
                  try clear c63b1
                  try clear c64
                  try clear c64b0
                  try clear c64b1
                  try clear p64
                  try clear c66
                  try clear c66b0
                  try clear c66b1
                  try clear c67
                  try clear c70
                  try clear c70b0
                  try clear c70b1
                  try clear c70b2
                  try clear c72
                  try clear c72b0
                  try clear c74
                  try clear c78
                  try clear c81
                  try clear c81b0
                  try clear c81b1
                  try clear hcz10_0
                  try clear hcz10_1
                  try clear hcz10_2
                  try clear hcz10_3
                  try clear hcz30_0
                  try clear hcz30_1
                  try clear hcz30_2
                  try clear hcz30_3
                  try clear hcz31_0
                  try clear hcz31_1
                  try clear hcz31_2
                  try clear hcz31_3
                  try clear hcz39_0
                  try clear hcz39_1
                  try clear hcz39_2
                  try clear hcz39_3
                  try clear hcz40_0
                  try clear hcz40_1
                  try clear hcz40_2
                  try clear hcz40_3
                  try clear hcz43_0
                  try clear hcz43_1
                  try clear hcz43_2
                  try clear hcz43_3
                  try clear hcz44_0
                  try clear hcz44_1
                  try clear hcz44_2
                  try clear hcz44_3
                  try clear hcz52_0
                  try clear hcz52_1
                  try clear hcz52_2
                  try clear hcz52_3
                  try clear hcz53_0
                  try clear hcz53_1
                  try clear hcz53_2
                  try clear hcz53_3
                  try clear hcz68_0
                  try clear hcz68_1
                  try clear hcz68_2
                  try clear hcz68_3
                  try clear hcz69_0
                  try clear hcz69_1
                  try clear hcz69_2
                  try clear hcz69_3
                  try clear hcz75_0
                  try clear hcz75_1
                  try clear hcz75_2
                  try clear hcz75_3
                  try clear hcz76_0
                  try clear hcz76_1
                  try clear hcz76_2
                  try clear hcz76_3
                  try clear hcz79_0
                  try clear hcz79_1
                  try clear hcz79_2
                  try clear hcz79_3
                  try clear hcz80_0
                  try clear hcz80_1
                  try clear hcz80_2
                  try clear hcz80_3
                  try clear hfz10_0
                  try clear hfz10_1
                  try clear hfz10_2
                  try clear hfz10_3
                  try clear hfz30_0
                  try clear hfz30_1
                  try clear hfz30_2
                  try clear hfz30_3
                  try clear hfz31_0
                  try clear hfz31_1
                  try clear hfz31_2
                  try clear hfz31_3
                  try clear hfz39_0
                  try clear hfz39_1
                  try clear hfz39_2
                  try clear hfz39_3
                  try clear hfz40_0
                  try clear hfz40_1
                  try clear hfz40_2
                  try clear hfz40_3
                  try clear hfz43_0
                  try clear hfz43_1
                  try clear hfz43_2
                  try clear hfz43_3
                  try clear hfz44_0
                  try clear hfz44_1
                  try clear hfz44_2
                  try clear hfz44_3
                  try clear hfz52_0
                  try clear hfz52_1
                  try clear hfz52_2
                  try clear hfz52_3
                  try clear hfz53_0
                  try clear hfz53_1
                  try clear hfz53_2
                  try clear hfz53_3
                  try clear hfz68_0
                  try clear hfz68_1
                  try clear hfz68_2
                  try clear hfz68_3
                  try clear hfz69_0
                  try clear hfz69_1
                  try clear hfz69_2
                  try clear hfz69_3
                  try clear hfz75_0
                  try clear hfz75_1
                  try clear hfz75_2
                  try clear hfz75_3
                  try clear hfz76_0
                  try clear hfz76_1
                  try clear hfz76_2
                  try clear hfz76_3
                  try clear hfz79_0
                  try clear hfz79_1
                  try clear hfz79_2
                  try clear hfz79_3
                  try clear hfz80_0
                  try clear hfz80_1
                  try clear hfz80_2
                  try clear hfz80_3
                  try clear p1
                  try clear p16
                  try clear p19
                  try clear p2
                  try clear p22
                  try clear p24
                  try clear p26
                  try clear p5
                  try clear p59
                  try clear p6
                  try clear q1
                  try clear q16
                  try clear q19
                  try clear q2
                  try clear q22
                  try clear q24
                  try clear q26
                  try clear q5
                  try clear q59
                  obtain ⟨x13_2, x14_2, x151000_2, x151001_2, x151002_2, x151003_2, x152000_2, x152001_2, rfl, HA, HK2, HO_13, BK150, BK151, HB⟩ := hrel
                  cases gk with
                  | zero => exact absurd HA.out (by simp [impl_one.l2])
                  | succ k2 =>
                    have H := HA.out
                    clear HA
                    simp only [impl_one.l2] at H
                    by_cases c82 : x14_2 < (a0.size : Int)
                    · rw [if_pos c82] at H
                      have c82b0 : decide (x14_2 < (a0.size : Int)) = true := decide_eq_true c82
                      clear c82
                      by_cases c83 : 0 ≤ x14_2
                      · rw [if_pos c83] at H
                        have c83b0 : decide (0 ≤ x14_2) = true := decide_eq_true c83
                        clear c83
                        by_cases c85 : (bt a0 x14_2) = 34
                        · rw [if_pos c85] at H
                          have c85b0 : ((bt a0 x14_2) == 34) = true := beq_iff_eq.mpr c85
                          have c85b1 : ((bt a0 x14_2) != 34) = false := bne_eq_false_iff_eq.mpr c85
                          clear c85
                          by_cases c86 : (x13_2.length : Int) > 4000
                          · rw [if_pos c86] at H
                            have c86b0 : decide (4000 < (x13_2.length : Int)) = true := decide_eq_true c86
                            have c86b1 : decide (4000 < x13_2.length) = true := decide_eq_true (by omega)
                            clear c86
                            simp only [Option.some.injEq, Prod.mk.injEq] at H
                            obtain ⟨rfl, rfl, rfl, rfl, rfl⟩ := H
                            have p84 : 0 ≤ (x14_2 : Int) := of_decide_eq_true (by first | (with_reducible assumption) | assumption)
                            have q84 : x14_2 < (a0.size : Int) := of_decide_eq_true (by first | (with_reducible assumption) | assumption)
                            have hx84 := bt_at a0 x14_2
                            replace p84 := eq_true p84
                            replace q84 := eq_true q84
                            obtain ⟨Ao87, co87, eo87⟩ := Kd.R_slice HO_13.out
                            subst eo87
                            have hnb88 := NB151_150.out
                            have hnc88 := NB150_151.out
                            have hcz89_0 : wr.cell? ⟨gb151, 0, none⟩ = some (.int .i64 x152000_2) := (blk_cell BK151.out 0).trans rfl
                            have hcz89_1 : wr.cell? ⟨gb151, 1, none⟩ = some (.string x152001_2) := (blk_cell BK151.out 1).trans rfl
                            have hcz89_2 : wr.cell? ⟨gb151, 2, none⟩ = some (.int .i64 0) := (blk_cell BK151.out 2).trans rfl
                            have hcz89_3 : wr.cell? ⟨gb151, 3, none⟩ = some (.int .i64 a1) := (blk_cell BK151.out 3).trans rfl
                            have hfz89_0 := blk_frozen BK151.out 0
                            have hfz89_1 := blk_frozen BK151.out 1
                            have hfz89_2 := blk_frozen BK151.out 2
                            have hfz89_3 := blk_frozen BK151.out 3
                            have hcz90_0 : wr.cell? ⟨gb150, 0, none⟩ = some (.int .i64 x151000_2) := (blk_cell BK150.out 0).trans rfl
                            have hcz90_1 : wr.cell? ⟨gb150, 1, none⟩ = some (.string x151001_2) := (blk_cell BK150.out 1).trans rfl
                            have hcz90_2 : wr.cell? ⟨gb150, 2, none⟩ = some (.int .i64 x151002_2) := (blk_cell BK150.out 2).trans rfl
                            have hcz90_3 : wr.cell? ⟨gb150, 3, none⟩ = some (.int .i64 x151003_2) := (blk_cell BK150.out 3).trans rfl
                            have hfz90_0 := blk_frozen BK150.out 0
                            have hfz90_1 := blk_frozen BK150.out 1
                            have hfz90_2 := blk_frozen BK150.out 2
                            have hfz90_3 := blk_frozen BK150.out 3
                            go_wp2
                            refine bodyPost_ret (results_ct rfl _ _ gb150 30 #[.int .i64 x152000_2, .string x152001_2, .int .i64 0, .int .i64 a1] (0, 0) _ rfl (by (with_reducible repeat (first | refine blk_drewN ?_ _ | refine blk_drew ?_ | refine blk_alloc ?_ _)); refine blk_put (cs := #[.int .i64 x152000_2, .string x152001_2, .int .i64 0, .int .i64 x151003_2]) ?_ 3 _ rfl; (with_reducible repeat (first | refine blk_drewN ?_ _ | refine blk_drew ?_ | refine blk_alloc ?_ _)); refine blk_put (cs := #[.int .i64 x152000_2, .string x152001_2, .int .i64 x151002_2, .int .i64 x151003_2]) ?_ 2 _ rfl; (with_reducible repeat (first | refine blk_drewN ?_ _ | refine blk_drew ?_ | refine blk_alloc ?_ _)); refine blk_put (cs := #[.int .i64 x152000_2, .string x151001_2, .int .i64 x151002_2, .int .i64 x151003_2]) ?_ 1 _ rfl; (with_reducible repeat (first | refine blk_drewN ?_ _ | refine blk_drew ?_ | refine blk_alloc ?_ _)); refine blk_put (cs := #[.int .i64 x151000_2, .string x151001_2, .int .i64 x151002_2, .int .i64 x151003_2]) ?_ 0 _ rfl; (with_reducible repeat (first | refine blk_drewN ?_ _ | refine blk_drew ?_ | refine blk_alloc ?_ _)); exact BK150.out) Tryd.underlying30 rfl (by kernel_rfl)) rfl ?_
                            exact ⟨by first | rfl | (simp [errW_none, errW_some] <;> rfl) | (simp [*, errW_none, errW_some] <;> rfl), by repeat (first | (with_reducible first | exact HB.out | apply below_alloc | apply pw_below_drewN | apply below_drew1 | refine below_set ?_ GE150.out | refine below_set ?_ GE151.out) | exact HB.out)⟩
                          · rw [if_neg c86] at H
                            have c86b0 : decide (4000 < (x13_2.length : Int)) = false := decide_eq_false c86
                            have c86b1 : decide (4000 < x13_2.length) = false := decide_eq_false (by omega)
                            clear c86
                            simp only [Option.some.injEq, Prod.mk.injEq] at H
                            obtain ⟨rfl, rfl, rfl, rfl, rfl⟩ := H
                            have p84 : 0 ≤ (x14_2 : Int) := of_decide_eq_true (by first | (with_reducible assumption) | assumption)
                            have q84 : x14_2 < (a0.size : Int) := of_decide_eq_true (by first | (with_reducible assumption) | assumption)
                            have hx84 := bt_at a0 x14_2
                            replace p84 := eq_true p84
                            replace q84 := eq_true q84
                            obtain ⟨Ao91, co91, eo91⟩ := Kd.R_slice HO_13.out
                            subst eo91
                            try go_wp2
                            have n0_ := Aside0.mk (Kd.R_drew HO_13.out)
                            have n1_ := Aside0.mk (blk_drew BK150.out)
                            have n2_ := Aside0.mk (blk_drew BK151.out)
                            have n3_ := Aside0.mk (below_drew1 HB.out)
                            clear HO_13
                            clear BK150
                            clear BK151
                            clear HB
                            have HO_13 := n0_
                            have BK150 := n1_
                            have BK151 := n2_
                            have HB := n3_
                            clear n0_ n1_ n2_ n3_
                            have hcv93 := own_string (P := Tryd.prog) Tryd.underlying44 Tryd.underlying5 Tryd.underlying9 (Kd.own_of_R HO_13.out)
                            refine start_ (n := 6) (S := fun w' => (convert 44 9 (.slice Ao91 x13_2.length co91)).run Tryd.prog w' = .ok (.string (strOfNums x13_2)) w') (ds := []) #[false, false, false, false, false, false] (by kernel_rfl) rfl rfl hcv93 (fun hHeld => ?_)
                            clear hcv93
                            generalize wr.drew = w92 at HO_13 BK150 BK151 HB hHeld ⊢
                            refine pure_ (i := 0) (N := some 149) (v := ?_) (a' := ?_) #[true, false, false, false, false, false] rfl rfl (by kernel_rfl) (fun _ _ _ h => h) (Or.inl ⟨by rfl, ?_⟩) ?_ ?_
                            rotate_left
                            · intro w'
                              go_simp
                              with_reducible rfl
                            rotate_left
                            · simp only [Act.put, List.setIfInBounds_toArray, List.set_cons_zero, List.set_cons_succ, i64_w, i32_w]
                              rfl
                            refine take_ (i := 1) (N := some 150) (v := ?_) (a' := ?_) #[true, true, false, false, false, false] rfl rfl (by kernel_rfl) (fun _ _ _ h => h) (Or.inl ⟨by rfl, ?_⟩) hHeld ?_ ?_
                            rotate_left
                            · intro w' s0
                              go_simp
                              with_reducible rfl
                            rotate_left
                            · simp only [Act.put, List.setIfInBounds_toArray, List.set_cons_zero, List.set_cons_succ, i64_w, i32_w]
                              rfl
                            refine pure_ (i := 2) (N := some 151) (v := ?_) (a' := ?_) #[true, true, true, false, false, false] rfl rfl (by kernel_rfl) (fun _ _ _ h => h) (Or.inl ⟨by rfl, ?_⟩) ?_ ?_
                            rotate_left
                            · intro w'
                              go_simp
                              with_reducible rfl
                            rotate_left
                            · simp only [Act.put, List.setIfInBounds_toArray, List.set_cons_zero, List.set_cons_succ, i64_w, i32_w]
                              rfl
                            refine one_ (i := 3) (N := none) #[true, true, true, true, false, false] rfl rfl (by kernel_rfl) (by decide) (fun K hK => ?_)
                            have hs94 : w92.cell? ⟨gb151, 0, none⟩ = some (.int .i64 x152000_2) := (blk_cell BK151.out 0).trans rfl
                            have hfs94 := blk_frozen BK151.out 0
                            have hns94_0 := NB150_151.out
                            have hms94_0 := NB151_150.out
                            refine skip_ (w1 := ?_) (by rfl) rfl ?_ ?_
                            rotate_left
                            · go_simp
                              rfl
                            refine hK.out _ _ (own_string (P := Tryd.prog) Tryd.underlying44 Tryd.underlying5 Tryd.underlying9 (Kd.own_of_R (Kd.R_far (p := ⟨gb151, 0, none⟩) (Kd.R_types HO_13.out BK151.out (by decide)) (fun _ hk => hk.2) _))) (fun hHeld => ?_)
                            clear hK K
                            have n0_ := Aside0.mk (Kd.R_mono (Kd.R_far (p := ⟨gb151, 0, none⟩) (Kd.R_types HO_13.out BK151.out (by decide)) (fun _ hk => hk.2) (.int .i64 3)) (fun _ hk => hk.1))
                            have n10_ := Aside0.mk (blk_far (p := ⟨gb151, 0, none⟩) BK150.out NB150_151.out (.int .i64 3))
                            have n2_ := Aside0.mk (blk_put (cs' := #[.int .i64 3, .string x152001_2, .int .i64 0, .int .i64 a1]) BK151.out 0 (.int .i64 3) rfl)
                            have n3_ := Aside0.mk (below_set (j := 0) (v := .int .i64 3) HB.out GE151.out)
                            clear HO_13 BK150 BK151 HB hs94 hfs94
                            have HO_13 := n0_
                            have BK150 := n10_
                            have BK151 := n2_
                            have HB := n3_
                            clear n0_ n2_ n3_ n10_
                            generalize w92.setCell ⟨gb151, 0, none⟩ (.int .i64 3) = w95 at HO_13 BK150 BK151 HB hHeld ⊢
                            refine pure_ (i := 4) (N := some 152) (v := ?_) (a' := ?_) #[true, true, true, true, true, false] rfl rfl (by kernel_rfl) (fun _ _ _ h => h) (Or.inl ⟨by rfl, ?_⟩) ?_ ?_
                            rotate_left
                            · intro w'
                              go_simp
                              with_reducible rfl
                            rotate_left
                            · simp only [Act.put, List.setIfInBounds_toArray, List.set_cons_zero, List.set_cons_succ, i64_w, i32_w]
                              rfl
                            refine one_ (i := 5) (N := none) #[true, true, true, true, true, true] rfl rfl (by kernel_rfl) (by decide) (fun K hK => ?_)
                            have hs96 : w95.cell? ⟨gb151, 1, none⟩ = some (.string x152001_2) := (blk_cell BK151.out 1).trans rfl
                            have hfs96 := blk_frozen BK151.out 1
                            have hns96_0 := NB150_151.out
                            have hms96_0 := NB151_150.out
                            refine skip_ (w1 := ?_) (by rfl) rfl ?_ ?_
                            rotate_left
                            · go_simp
                              rfl
                            refine hK.out _ _ (own_string (P := Tryd.prog) Tryd.underlying44 Tryd.underlying5 Tryd.underlying9 (Kd.own_of_R (Kd.R_far (p := ⟨gb151, 1, none⟩) (Kd.R_types HO_13.out BK151.out (by decide)) (fun _ hk => hk.2) _))) (fun hHeld => ?_)
                            clear hK K
                            refine done_ (by kernel_rfl) ?_
                            have hnb97 := NB151_150.out
                            have hnc97 := NB150_151.out
                            have hcz98_0 : w95.cell? ⟨gb151, 0, none⟩ = some (.int .i64 3) := (blk_cell BK151.out 0).trans rfl
                            have hcz98_1 : w95.cell? ⟨gb151, 1, none⟩ = some (.string x152001_2) := (blk_cell BK151.out 1).trans rfl
                            have hcz98_2 : w95.cell? ⟨gb151, 2, none⟩ = some (.int .i64 0) := (blk_cell BK151.out 2).trans rfl
                            have hcz98_3 : w95.cell? ⟨gb151, 3, none⟩ = some (.int .i64 a1) := (blk_cell BK151.out 3).trans rfl
                            have hfz98_0 := blk_frozen BK151.out 0
                            have hfz98_1 := blk_frozen BK151.out 1
                            have hfz98_2 := blk_frozen BK151.out 2
                            have hfz98_3 := blk_frozen BK151.out 3
                            have hcz99_0 : w95.cell? ⟨gb150, 0, none⟩ = some (.int .i64 x151000_2) := (blk_cell BK150.out 0).trans rfl
                            have hcz99_1 : w95.cell? ⟨gb150, 1, none⟩ = some (.string x151001_2) := (blk_cell BK150.out 1).trans rfl
                            have hcz99_2 : w95.cell? ⟨gb150, 2, none⟩ = some (.int .i64 x151002_2) := (blk_cell BK150.out 2).trans rfl
                            have hcz99_3 : w95.cell? ⟨gb150, 3, none⟩ = some (.int .i64 x151003_2) := (blk_cell BK150.out 3).trans rfl
                            have hfz99_0 := blk_frozen BK150.out 0
                            have hfz99_1 := blk_frozen BK150.out 1
                            have hfz99_2 := blk_frozen BK150.out 2
                            have hfz99_3 := blk_frozen BK150.out 3
                            try go_wp2
                            refine bodyPost_ret (results_ct rfl _ _ gb150 30 #[.int .i64 3, .string (strOfNums x13_2), .int .i64 0, .int .i64 a1] (0, 0) _ rfl (by (with_reducible repeat (first | refine blk_drewN ?_ _ | refine blk_drew ?_ | refine blk_alloc ?_ _)); refine blk_put (cs := #[.int .i64 3, .string (strOfNums x13_2), .int .i64 0, .int .i64 x151003_2]) ?_ 3 _ rfl; (with_reducible repeat (first | refine blk_drewN ?_ _ | refine blk_drew ?_ | refine blk_alloc ?_ _)); refine blk_put (cs := #[.int .i64 3, .string (strOfNums x13_2), .int .i64 x151002_2, .int .i64 x151003_2]) ?_ 2 _ rfl; (with_reducible repeat (first | refine blk_drewN ?_ _ | refine blk_drew ?_ | refine blk_alloc ?_ _)); refine blk_put (cs := #[.int .i64 3, .string x151001_2, .int .i64 x151002_2, .int .i64 x151003_2]) ?_ 1 _ rfl; (with_reducible repeat (first | refine blk_drewN ?_ _ | refine blk_drew ?_ | refine blk_alloc ?_ _)); refine blk_put (cs := #[.int .i64 x151000_2, .string x151001_2, .int .i64 x151002_2, .int .i64 x151003_2]) ?_ 0 _ rfl; (with_reducible repeat (first | refine blk_drewN ?_ _ | refine blk_drew ?_ | refine blk_alloc ?_ _)); refine blk_far ?_ NB150_151.out _; (with_reducible repeat (first | refine blk_drewN ?_ _ | refine blk_drew ?_ | refine blk_alloc ?_ _)); exact BK150.out) Tryd.underlying30 rfl (by kernel_rfl)) rfl ?_
                            exact ⟨by first | rfl | (simp [errW_none, errW_some] <;> rfl) | (simp [*, errW_none, errW_some] <;> rfl), by repeat (first | (with_reducible first | exact HB.out | apply below_alloc | apply pw_below_drewN | apply below_drew1 | refine below_set ?_ GE150.out | refine below_set ?_ GE151.out) | exact HB.out)⟩
                        · rw [if_neg c85] at H
                          have c85b0 : ((bt a0 x14_2) == 34) = false := beq_eq_false_iff_ne.mpr c85
                          have c85b1 : ((bt a0 x14_2) != 34) = true := bne_iff_ne.mpr c85
                          by_cases c100 : (bt a0 x14_2) = 92
                          · rw [if_pos c100] at H
                            have c100b0 : ((bt a0 x14_2) == 92) = true := beq_iff_eq.mpr c100
                            have c100b1 : ((bt a0 x14_2) != 92) = false := bne_eq_false_iff_eq.mpr c100
                            clear c100
                            by_cases c101 : (wrap64 (x14_2 + 1)) = (a0.size : Int)
                            · rw [if_pos c101] at H
                              have c101b0 : ((wrap64 (x14_2 + 1)) == (a0.size : Int)) = true := beq_iff_eq.mpr c101
                              have c101b1 : ((wrap64 (x14_2 + 1)) != (a0.size : Int)) = false := bne_eq_false_iff_eq.mpr c101
                              clear c101
                              simp only [Option.some.injEq, Prod.mk.injEq] at H
                              obtain ⟨rfl, rfl, rfl, rfl, rfl⟩ := H
                              have p84 : 0 ≤ (x14_2 : Int) := of_decide_eq_true (by first | (with_reducible assumption) | assumption)
                              have q84 : x14_2 < (a0.size : Int) := of_decide_eq_true (by first | (with_reducible assumption) | assumption)
                              have hx84 := bt_at a0 x14_2
                              replace p84 := eq_true p84
                              replace q84 := eq_true q84
                              have hnb102 := NB151_150.out
                              have hnc102 := NB150_151.out
                              have hcz103_0 : wr.cell? ⟨gb151, 0, none⟩ = some (.int .i64 x152000_2) := (blk_cell BK151.out 0).trans rfl
                              have hcz103_1 : wr.cell? ⟨gb151, 1, none⟩ = some (.string x152001_2) := (blk_cell BK151.out 1).trans rfl
                              have hcz103_2 : wr.cell? ⟨gb151, 2, none⟩ = some (.int .i64 0) := (blk_cell BK151.out 2).trans rfl
                              have hcz103_3 : wr.cell? ⟨gb151, 3, none⟩ = some (.int .i64 a1) := (blk_cell BK151.out 3).trans rfl
                              have hfz103_0 := blk_frozen BK151.out 0
                              have hfz103_1 := blk_frozen BK151.out 1
                              have hfz103_2 := blk_frozen BK151.out 2
                              have hfz103_3 := blk_frozen BK151.out 3
                              have hcz104_0 : wr.cell? ⟨gb150, 0, none⟩ = some (.int .i64 x151000_2) := (blk_cell BK150.out 0).trans rfl
                              have hcz104_1 : wr.cell? ⟨gb150, 1, none⟩ = some (.string x151001_2) := (blk_cell BK150.out 1).trans rfl
                              have hcz104_2 : wr.cell? ⟨gb150, 2, none⟩ = some (.int .i64 x151002_2) := (blk_cell BK150.out 2).trans rfl
                              have hcz104_3 : wr.cell? ⟨gb150, 3, none⟩ = some (.int .i64 x151003_2) := (blk_cell BK150.out 3).trans rfl
                              have hfz104_0 := blk_frozen BK150.out 0
                              have hfz104_1 := blk_frozen BK150.out 1
                              have hfz104_2 := blk_frozen BK150.out 2
                              have hfz104_3 := blk_frozen BK150.out 3
                              go_wp2
                              refine bodyPost_ret (results_ct rfl _ _ gb150 30 #[.int .i64 x152000_2, .string x152001_2, .int .i64 0, .int .i64 a1] (0, 0) _ rfl (by (with_reducible repeat (first | refine blk_drewN ?_ _ | refine blk_drew ?_ | refine blk_alloc ?_ _)); refine blk_put (cs := #[.int .i64 x152000_2, .string x152001_2, .int .i64 0, .int .i64 x151003_2]) ?_ 3 _ rfl; (with_reducible repeat (first | refine blk_drewN ?_ _ | refine blk_drew ?_ | refine blk_alloc ?_ _)); refine blk_put (cs := #[.int .i64 x152000_2, .string x152001_2, .int .i64 x151002_2, .int .i64 x151003_2]) ?_ 2 _ rfl; (with_reducible repeat (first | refine blk_drewN ?_ _ | refine blk_drew ?_ | refine blk_alloc ?_ _)); refine blk_put (cs := #[.int .i64 x152000_2, .string x151001_2, .int .i64 x151002_2, .int .i64 x151003_2]) ?_ 1 _ rfl; (with_reducible repeat (first | refine blk_drewN ?_ _ | refine blk_drew ?_ | refine blk_alloc ?_ _)); refine blk_put (cs := #[.int .i64 x151000_2, .string x151001_2, .int .i64 x151002_2, .int .i64 x151003_2]) ?_ 0 _ rfl; (with_reducible repeat (first | refine blk_drewN ?_ _ | refine blk_drew ?_ | refine blk_alloc ?_ _)); exact BK150.out) Tryd.underlying30 rfl (by kernel_rfl)) rfl ?_
                              exact ⟨by first | rfl | (simp [errW_none, errW_some] <;> rfl) | (simp [*, errW_none, errW_some] <;> rfl), by repeat (first | (with_reducible first | exact HB.out | apply below_alloc | apply pw_below_drewN | apply below_drew1 | refine below_set ?_ GE150.out | refine below_set ?_ GE151.out) | exact HB.out)⟩
                            · rw [if_neg c101] at H
                              have c101b0 : ((wrap64 (x14_2 + 1)) == (a0.size : Int)) = false := beq_eq_false_iff_ne.mpr c101
                              have c101b1 : ((wrap64 (x14_2 + 1)) != (a0.size : Int)) = true := bne_iff_ne.mpr c101
                              obtain ⟨ji105, hji105⟩ : ∃ j_ : Int, (wrap64 (x14_2 + 1)) = j_ := ⟨_, rfl⟩
                              replace H : (if 0 ≤ (ji105) then (if (ji105) < (a0.size : Int) then ((strings_IndexByte.f (⟨#[110, 116, 34, 92]⟩ : ByteArray) (bt a0 (ji105))).bind fun t160 => (if t160 < 0 then (some (x152000_2, x152001_2, 0, a1, 0)) else (if 0 ≤ t160 then (if t160 < 4 then (if x13_2.length < 140737488355328 then (impl_one.l2 k2 a0 a1 (x13_2 ++ [bt (⟨#[10, 9, 34, 92]⟩ : ByteArray) t160]) (wrap64 ((ji105) + 1)) x152000_2 x152001_2 0 a1) else (none)) else (none)) else (none)))) else (none)) else (none)) = some (r1, r2, r3, r4, r5) := by first | (rw [hji105] at H; exact H) | (simp only [hji105] at H ⊢; exact H)
                              (try rw [hji105] at c101b0)
                              (try rw [hji105] at c101b1)
                              have hji105w : (IntKind.i64.wrap (x14_2 + 1)) = ji105 := (i64_w _).trans hji105
                              by_cases c106 : 0 ≤ (ji105)
                              · rw [if_pos c106] at H
                                have c106b0 : decide (0 ≤ (ji105)) = true := decide_eq_true c106
                                clear c106
                                by_cases c107 : (ji105) < (a0.size : Int)
                                · rw [if_pos c107] at H
                                  have c107b0 : decide ((ji105) < (a0.size : Int)) = true := decide_eq_true c107
                                  clear c107
                                  replace H := Option.bind_eq_some_iff.mp H
                                  obtain ⟨t160, A1090, H⟩ := H
                                  replace H : (if t160 < 0 then (some (x152000_2, x152001_2, 0, a1, 0)) else (if 0 ≤ t160 then (if t160 < 4 then (if x13_2.length < 140737488355328 then (impl_one.l2 k2 a0 a1 (x13_2 ++ [bt (⟨#[10, 9, 34, 92]⟩ : ByteArray) t160]) (wrap64 ((ji105) + 1)) x152000_2 x152001_2 0 a1) else (none)) else (none)) else (none))) = some (r1, r2, r3, r4, r5) := H
                                  have A109 := Aside0.mk A1090
                                  clear A1090
                                  by_cases c110 : t160 < 0
                                  · rw [if_pos c110] at H
                                    have c110b0 : decide (t160 < 0) = true := decide_eq_true c110
                                    clear c110
                                    simp only [Option.some.injEq, Prod.mk.injEq] at H
                                    obtain ⟨rfl, rfl, rfl, rfl, rfl⟩ := H
                                    have p84 : 0 ≤ (x14_2 : Int) := of_decide_eq_true (by first | (with_reducible assumption) | assumption)
                                    have q84 : x14_2 < (a0.size : Int) := of_decide_eq_true (by first | (with_reducible assumption) | assumption)
                                    have hx84 := bt_at a0 x14_2
                                    replace p84 := eq_true p84
                                    replace q84 := eq_true q84
                                    have p108 : 0 ≤ ((ji105) : Int) := of_decide_eq_true (by first | (with_reducible assumption) | assumption)
                                    have q108 : (ji105) < (a0.size : Int) := of_decide_eq_true (by first | (with_reducible assumption) | assumption)
                                    have hx108 := bt_at a0 (ji105)
                                    replace p108 := eq_true p108
                                    replace q108 := eq_true q108
                                    go_wp2_with (first | ((with_reducible refine gate_callee (f := 23) rfl ?_); refine goesL_ (some 172) rfl rfl Tryd.func23 (by kernel_rfl) rfl #[.string (⟨#[110, 116, 34, 92]⟩ : ByteArray), .int .u8 (bt a0 (ji105))] rfl (by (try simp only [List.map_toArray, List.map_cons, List.map_nil]); first | done | (simp only [hji105]; rfl) | rfl | (simp only [List.length_drop, List.length_take]; rfl)) ?_; (with_reducible refine (strings_IndexByte.calls (⟨#[110, 116, 34, 92]⟩ : ByteArray) (bt a0 (ji105)) t160 _ A109.out).mono ?_); rintro e w' ⟨rfl, ⟨nd, rfl⟩⟩; refine ⟨_, rfl, ?_⟩; (try (rw [drewN_self wr]; generalize hq_ : World.drewN wr _ = wr; have n0_ : Aside0 (Kd.R (Kd.int .u8) 5 wr w.heap.size (fun _ => True) u13 x13_2) := ⟨by rw [← hq_]; exact (by (with_reducible repeat (first | apply Kd.R_alloc | apply Kd.R_drewN | apply Kd.R_drew)); exact HO_13.out)⟩; have n1_ : Aside0 (wr.heap[gb150]? = some (.cells #[.int .i64 x151000_2, .string x151001_2, .int .i64 x151002_2, .int .i64 x151003_2] 30 (0, 0))) := ⟨by rw [← hq_]; exact (by (with_reducible repeat (first | refine blk_drewN ?_ _ | refine blk_drew ?_ | refine blk_alloc ?_ _)); exact BK150.out)⟩; have n2_ : Aside0 (wr.heap[gb151]? = some (.cells #[.int .i64 x152000_2, .string x152001_2, .int .i64 0, .int .i64 a1] 30 (0, 0))) := ⟨by rw [← hq_]; exact (by (with_reducible repeat (first | refine blk_drewN ?_ _ | refine blk_drew ?_ | refine blk_alloc ?_ _)); exact BK151.out)⟩; have n3_ : Aside0 (Below w.heap.size w wr) := ⟨by rw [← hq_]; exact (by repeat (first | (with_reducible first | exact HB.out | apply below_alloc | apply pw_below_drewN | apply below_drew1 | refine below_set ?_ GE150.out | refine below_set ?_ GE151.out) | exact HB.out))⟩; clear HO_13 BK150 BK151 HB hq_; have HO_13 := n0_; have BK150 := n1_; have BK151 := n2_; have HB := n3_; clear n0_ n1_ n2_ n3_)); have hnb111 := NB151_150.out; have hnc111 := NB150_151.out; have hcz112_0 : wr.cell? ⟨gb151, 0, none⟩ = some (.int .i64 x152000_2) := (blk_cell BK151.out 0).trans rfl; have hcz112_1 : wr.cell? ⟨gb151, 1, none⟩ = some (.string x152001_2) := (blk_cell BK151.out 1).trans rfl; have hcz112_2 : wr.cell? ⟨gb151, 2, none⟩ = some (.int .i64 0) := (blk_cell BK151.out 2).trans rfl; have hcz112_3 : wr.cell? ⟨gb151, 3, none⟩ = some (.int .i64 a1) := (blk_cell BK151.out 3).trans rfl; have hfz112_0 := blk_frozen BK151.out 0; have hfz112_1 := blk_frozen BK151.out 1; have hfz112_2 := blk_frozen BK151.out 2; have hfz112_3 := blk_frozen BK151.out 3; have hcz113_0 : wr.cell? ⟨gb150, 0, none⟩ = some (.int .i64 x151000_2) := (blk_cell BK150.out 0).trans rfl; have hcz113_1 : wr.cell? ⟨gb150, 1, none⟩ = some (.string x151001_2) := (blk_cell BK150.out 1).trans rfl; have hcz113_2 : wr.cell? ⟨gb150, 2, none⟩ = some (.int .i64 x151002_2) := (blk_cell BK150.out 2).trans rfl; have hcz113_3 : wr.cell? ⟨gb150, 3, none⟩ = some (.int .i64 x151003_2) := (blk_cell BK150.out 3).trans rfl; have hfz113_0 := blk_frozen BK150.out 0; have hfz113_1 := blk_frozen BK150.out 1; have hfz113_2 := blk_frozen BK150.out 2; have hfz113_3 := blk_frozen BK150.out 3))
                                    refine bodyPost_ret (results_ct rfl _ _ gb150 30 #[.int .i64 x152000_2, .string x152001_2, .int .i64 0, .int .i64 a1] (0, 0) _ rfl (by (with_reducible repeat (first | refine blk_drewN ?_ _ | refine blk_drew ?_ | refine blk_alloc ?_ _)); refine blk_put (cs := #[.int .i64 x152000_2, .string x152001_2, .int .i64 0, .int .i64 x151003_2]) ?_ 3 _ rfl; (with_reducible repeat (first | refine blk_drewN ?_ _ | refine blk_drew ?_ | refine blk_alloc ?_ _)); refine blk_put (cs := #[.int .i64 x152000_2, .string x152001_2, .int .i64 x151002_2, .int .i64 x151003_2]) ?_ 2 _ rfl; (with_reducible repeat (first | refine blk_drewN ?_ _ | refine blk_drew ?_ | refine blk_alloc ?_ _)); refine blk_put (cs := #[.int .i64 x152000_2, .string x151001_2, .int .i64 x151002_2, .int .i64 x151003_2]) ?_ 1 _ rfl; (with_reducible repeat (first | refine blk_drewN ?_ _ | refine blk_drew ?_ | refine blk_alloc ?_ _)); refine blk_put (cs := #[.int .i64 x151000_2, .string x151001_2, .int .i64 x151002_2, .int .i64 x151003_2]) ?_ 0 _ rfl; (with_reducible repeat (first | refine blk_drewN ?_ _ | refine blk_drew ?_ | refine blk_alloc ?_ _)); exact BK150.out) Tryd.underlying30 rfl (by kernel_rfl)) rfl ?_
                                    exact ⟨by first | rfl | (simp [errW_none, errW_some] <;> rfl) | (simp only [← hji105]; first | rfl | (simp [errW_none, errW_some] <;> rfl)) | (simp [*, errW_none, errW_some] <;> rfl), by repeat (first | (with_reducible first | exact HB.out | apply below_alloc | apply pw_below_drewN | apply below_drew1 | refine below_set ?_ GE150.out | refine below_set ?_ GE151.out) | exact HB.out)⟩
                                  · rw [if_neg c110] at H
                                    have c110b0 : decide (t160 < 0) = false := decide_eq_false c110
                                    clear c110
                                    by_cases c114 : 0 ≤ t160
                                    · rw [if_pos c114] at H
                                      have c114b0 : decide (0 ≤ t160) = true := decide_eq_true c114
                                      clear c114
                                      by_cases c115 : t160 < 4
                                      · rw [if_pos c115] at H
                                        have c115b0 : decide (t160 < 4) = true := decide_eq_true c115
                                        clear c115
                                        by_cases c117 : x13_2.length < 140737488355328
                                        · rw [if_pos c117] at H
                                          have LMc117 := Aside0.mk c117
                                          clear c117
                                          obtain ⟨y161, hy161⟩ : ∃ y_ : List Int, y_ = (x13_2 ++ [bt (⟨#[10, 9, 34, 92]⟩ : ByteArray) t160]) := ⟨_, rfl⟩
                                          replace H : (impl_one.l2 k2 a0 a1 y161 (wrap64 ((ji105) + 1)) x152000_2 x152001_2 0 a1) = some (r1, r2, r3, r4, r5) := by first | (rw [hy161]; with_reducible exact H) | (have H2_ := (Option.bind_some _ _).symm.trans H; rw [hy161]; with_reducible exact H2_) | (have H2_ := (Option.bind_some _ _).symm.trans H; with_reducible exact H2_) | with_reducible exact H | (rw [hy161]; exact H) | exact H
                                          have Ny161 := Aside0.mk hy161
                                          clear hy161
                                          have H' := Aside0.mk H
                                          clear H
                                          have p84 : 0 ≤ (x14_2 : Int) := of_decide_eq_true (by first | (with_reducible assumption) | assumption)
                                          have q84 : x14_2 < (a0.size : Int) := of_decide_eq_true (by first | (with_reducible assumption) | assumption)
                                          have hx84 := bt_at a0 x14_2
                                          replace p84 := eq_true p84
                                          replace q84 := eq_true q84
                                          have p108 : 0 ≤ ((ji105) : Int) := of_decide_eq_true (by first | (with_reducible assumption) | assumption)
                                          have q108 : (ji105) < (a0.size : Int) := of_decide_eq_true (by first | (with_reducible assumption) | assumption)
                                          have hx108 := bt_at a0 (ji105)
                                          replace p108 := eq_true p108
                                          replace q108 := eq_true q108
                                          go_wp2_with (first | ((with_reducible refine gate_callee (f := 23) rfl ?_); refine goesL_ (some 172) rfl rfl Tryd.func23 (by kernel_rfl) rfl #[.string (⟨#[110, 116, 34, 92]⟩ : ByteArray), .int .u8 (bt a0 (ji105))] rfl (by (try simp only [List.map_toArray, List.map_cons, List.map_nil]); first | done | (simp only [hji105]; rfl) | rfl | (simp only [List.length_drop, List.length_take]; rfl)) ?_; (with_reducible refine (strings_IndexByte.calls (⟨#[110, 116, 34, 92]⟩ : ByteArray) (bt a0 (ji105)) t160 _ A109.out).mono ?_); rintro e w' ⟨rfl, ⟨nd, rfl⟩⟩; refine ⟨_, rfl, ?_⟩; have p116 : 0 ≤ (t160 : Int) := of_decide_eq_true (by first | (with_reducible assumption) | assumption); have q116 : t160 < (4 : Int) := of_decide_eq_true (by first | (with_reducible assumption) | assumption); have hx116 := bt_at (⟨#[10, 9, 34, 92]⟩ : ByteArray) t160; replace p116 := eq_true p116; replace q116 := eq_true q116) | ((with_reducible refine gate_builtin (b := .append) (xs := #[.tmp 176, .tmp 179]) rfl ?_); at_builtin; refine Kd.R_append (Kd.int .u8) (w0 := w) w.heap.size rfl (.tmp 176) (.tmp 179) 44 5 (.int .u8 0) 1 rfl Tryd.underlying44 info5 rfl (by decide) (by omega) u13 x13_2 (bt (⟨#[10, 9, 34, 92]⟩ : ByteArray) t160) [.int .u8 (bt (⟨#[10, 9, 34, 92]⟩ : ByteArray) t160)] (fun _ => True) (fun _ => False) rfl rfl ?aP (fun _ hk => hk.elim) ?aF ?aO ?aB ?aS ?aL ?_; (case aP => exact rfl); (case aB => exact (by repeat (first | (with_reducible first | exact HB.out | apply below_alloc | apply pw_below_drewN | apply below_drew1 | refine below_set ?_ GE150.out | refine below_set ?_ GE151.out) | exact HB.out))); (case aF => exact (fun _ _ => trivial)); (case aO => exact (by (with_reducible repeat (first | apply Kd.R_alloc | apply Kd.R_drewN | apply Kd.R_drew)); exact HO_13.out)); (case aS => exact (below_size (by repeat (first | (with_reducible first | exact HB.out | apply below_alloc | apply pw_below_drewN | apply below_drew1 | refine below_set ?_ GE150.out | refine below_set ?_ GE151.out) | exact HB.out)))); (case aL => have := LMc117.out; omega); intro v162 w118 ho hb hg hat; rw [← Ny161.out] at ho; have n0_ := Aside0.mk (blk_grown (g := gb150) (o := .cells #[.int .i64 x151000_2, .string x151001_2, .int .i64 x151002_2, .int .i64 x151003_2] 30 (0, 0)) (by (with_reducible repeat (first | refine blk_drewN ?_ _ | refine blk_drew ?_ | refine blk_alloc ?_ _)); exact BK150.out) hg (Kd.R_ne HO_13.out BK150.out (by decide))); have n1_ := Aside0.mk (blk_grown (g := gb151) (o := .cells #[.int .i64 x152000_2, .string x152001_2, .int .i64 0, .int .i64 a1] 30 (0, 0)) (by (with_reducible repeat (first | refine blk_drewN ?_ _ | refine blk_drew ?_ | refine blk_alloc ?_ _)); exact BK151.out) hg (Kd.R_ne HO_13.out BK151.out (by decide))); have n2_ := Aside0.mk (hb); have n3_ := Aside0.mk (ho); clear BK150; clear BK151; clear HB; clear HO_13; have BK150 := n0_; have BK151 := n1_; have HB := n2_; have HO163 := n3_; clear n0_ n1_ n2_ n3_; clear ho hb hg hat))
                                          go_roundg k2
                                          case measure => have := HJ5.out; have := HK2.out; omega
                                          case rel => exact ⟨(y161), (wrap64 ((ji105) + 1)), (x151000_2), (x151001_2), (x151002_2), (x151003_2), (x152000_2), (x152001_2), (by first | rfl | (simp; done) | (simp only [← hji105] <;> (first | rfl | simp)) | (simp [*]; done)), H', ⟨by have := HJ5.out; have := HK2.out; omega⟩, ⟨by (with_reducible repeat (first | apply Kd.R_alloc | apply Kd.R_drewN | apply Kd.R_drew)); exact HO163.out⟩, ⟨by (with_reducible repeat (first | refine blk_drewN ?_ _ | refine blk_drew ?_ | refine blk_alloc ?_ _)); exact BK150.out⟩, ⟨by (with_reducible repeat (first | refine blk_drewN ?_ _ | refine blk_drew ?_ | refine blk_alloc ?_ _)); exact BK151.out⟩, ⟨by repeat (first | (with_reducible first | exact HB.out | apply below_alloc | apply pw_below_drewN | apply below_drew1 | refine below_set ?_ GE150.out | refine below_set ?_ GE151.out) | exact HB.out)⟩⟩
                                        · rw [if_neg c117] at H
                                          exact absurd H (by simp)
                                      · rw [if_neg c115] at H
                                        exact absurd H (by simp)
                                    · rw [if_neg c114] at H
                                      exact absurd H (by simp)
                                · rw [if_neg c107] at H
                                  exact absurd H (by simp)
                              · rw [if_neg c106] at H
                                exact absurd H (by simp)
                          · rw [if_neg c100] at H
                            have c100b0 : ((bt a0 x14_2) == 92) = false := beq_eq_false_iff_ne.mpr c100
                            have c100b1 : ((bt a0 x14_2) != 92) = true := bne_iff_ne.mpr c100
                            by_cases c119 : (bt a0 x14_2) < 32
                            · rw [if_pos c119] at H
                              have c119b0 : decide ((bt a0 x14_2) < 32) = true := decide_eq_true c119
                              clear c119
                              simp only [Option.some.injEq, Prod.mk.injEq] at H
                              obtain ⟨rfl, rfl, rfl, rfl, rfl⟩ := H
                              have p84 : 0 ≤ (x14_2 : Int) := of_decide_eq_true (by first | (with_reducible assumption) | assumption)
                              have q84 : x14_2 < (a0.size : Int) := of_decide_eq_true (by first | (with_reducible assumption) | assumption)
                              have hx84 := bt_at a0 x14_2
                              replace p84 := eq_true p84
                              replace q84 := eq_true q84
                              have hnb120 := NB151_150.out
                              have hnc120 := NB150_151.out
                              have hcz121_0 : wr.cell? ⟨gb151, 0, none⟩ = some (.int .i64 x152000_2) := (blk_cell BK151.out 0).trans rfl
                              have hcz121_1 : wr.cell? ⟨gb151, 1, none⟩ = some (.string x152001_2) := (blk_cell BK151.out 1).trans rfl
                              have hcz121_2 : wr.cell? ⟨gb151, 2, none⟩ = some (.int .i64 0) := (blk_cell BK151.out 2).trans rfl
                              have hcz121_3 : wr.cell? ⟨gb151, 3, none⟩ = some (.int .i64 a1) := (blk_cell BK151.out 3).trans rfl
                              have hfz121_0 := blk_frozen BK151.out 0
                              have hfz121_1 := blk_frozen BK151.out 1
                              have hfz121_2 := blk_frozen BK151.out 2
                              have hfz121_3 := blk_frozen BK151.out 3
                              have hcz122_0 : wr.cell? ⟨gb150, 0, none⟩ = some (.int .i64 x151000_2) := (blk_cell BK150.out 0).trans rfl
                              have hcz122_1 : wr.cell? ⟨gb150, 1, none⟩ = some (.string x151001_2) := (blk_cell BK150.out 1).trans rfl
                              have hcz122_2 : wr.cell? ⟨gb150, 2, none⟩ = some (.int .i64 x151002_2) := (blk_cell BK150.out 2).trans rfl
                              have hcz122_3 : wr.cell? ⟨gb150, 3, none⟩ = some (.int .i64 x151003_2) := (blk_cell BK150.out 3).trans rfl
                              have hfz122_0 := blk_frozen BK150.out 0
                              have hfz122_1 := blk_frozen BK150.out 1
                              have hfz122_2 := blk_frozen BK150.out 2
                              have hfz122_3 := blk_frozen BK150.out 3
                              go_wp2
                              refine bodyPost_ret (results_ct rfl _ _ gb150 30 #[.int .i64 x152000_2, .string x152001_2, .int .i64 0, .int .i64 a1] (0, 0) _ rfl (by (with_reducible repeat (first | refine blk_drewN ?_ _ | refine blk_drew ?_ | refine blk_alloc ?_ _)); refine blk_put (cs := #[.int .i64 x152000_2, .string x152001_2, .int .i64 0, .int .i64 x151003_2]) ?_ 3 _ rfl; (with_reducible repeat (first | refine blk_drewN ?_ _ | refine blk_drew ?_ | refine blk_alloc ?_ _)); refine blk_put (cs := #[.int .i64 x152000_2, .string x152001_2, .int .i64 x151002_2, .int .i64 x151003_2]) ?_ 2 _ rfl; (with_reducible repeat (first | refine blk_drewN ?_ _ | refine blk_drew ?_ | refine blk_alloc ?_ _)); refine blk_put (cs := #[.int .i64 x152000_2, .string x151001_2, .int .i64 x151002_2, .int .i64 x151003_2]) ?_ 1 _ rfl; (with_reducible repeat (first | refine blk_drewN ?_ _ | refine blk_drew ?_ | refine blk_alloc ?_ _)); refine blk_put (cs := #[.int .i64 x151000_2, .string x151001_2, .int .i64 x151002_2, .int .i64 x151003_2]) ?_ 0 _ rfl; (with_reducible repeat (first | refine blk_drewN ?_ _ | refine blk_drew ?_ | refine blk_alloc ?_ _)); exact BK150.out) Tryd.underlying30 rfl (by kernel_rfl)) rfl ?_
                              exact ⟨by first | rfl | (simp [errW_none, errW_some] <;> rfl) | (simp [*, errW_none, errW_some] <;> rfl), by repeat (first | (with_reducible first | exact HB.out | apply below_alloc | apply pw_below_drewN | apply below_drew1 | refine below_set ?_ GE150.out | refine below_set ?_ GE151.out) | exact HB.out)⟩
                            · rw [if_neg c119] at H
                              have c119b0 : decide ((bt a0 x14_2) < 32) = false := decide_eq_false c119
                              clear c119
                              by_cases c123 : x13_2.length < 140737488355328
                              · rw [if_pos c123] at H
                                have LMc123 := Aside0.mk c123
                                clear c123
                                obtain ⟨y164, hy164⟩ : ∃ y_ : List Int, y_ = (x13_2 ++ [bt a0 x14_2]) := ⟨_, rfl⟩
                                replace H : (impl_one.l2 k2 a0 a1 y164 (wrap64 (x14_2 + 1)) x152000_2 x152001_2 0 a1) = some (r1, r2, r3, r4, r5) := by first | (rw [hy164]; with_reducible exact H) | (have H2_ := (Option.bind_some _ _).symm.trans H; rw [hy164]; with_reducible exact H2_) | (have H2_ := (Option.bind_some _ _).symm.trans H; with_reducible exact H2_) | with_reducible exact H | (rw [hy164]; exact H) | exact H
                                have Ny164 := Aside0.mk hy164
                                clear hy164
                                have H' := Aside0.mk H
                                clear H
                                have p84 : 0 ≤ (x14_2 : Int) := of_decide_eq_true (by first | (with_reducible assumption) | assumption)
                                have q84 : x14_2 < (a0.size : Int) := of_decide_eq_true (by first | (with_reducible assumption) | assumption)
                                have hx84 := bt_at a0 x14_2
                                replace p84 := eq_true p84
                                replace q84 := eq_true q84
                                go_wp2_with (first | ((with_reducible refine gate_builtin (b := .append) (xs := #[.tmp 138, .tmp 140]) rfl ?_); at_builtin; refine Kd.R_append (Kd.int .u8) (w0 := w) w.heap.size rfl (.tmp 138) (.tmp 140) 44 5 (.int .u8 0) 1 rfl Tryd.underlying44 info5 rfl (by decide) (by omega) u13 x13_2 (bt a0 x14_2) [.int .u8 (bt a0 x14_2)] (fun _ => True) (fun _ => False) rfl rfl ?aP (fun _ hk => hk.elim) ?aF ?aO ?aB ?aS ?aL ?_; (case aP => exact rfl); (case aB => exact (by repeat (first | (with_reducible first | exact HB.out | apply below_alloc | apply pw_below_drewN | apply below_drew1 | refine below_set ?_ GE150.out | refine below_set ?_ GE151.out) | exact HB.out))); (case aF => exact (fun _ _ => trivial)); (case aO => exact (by (with_reducible repeat (first | apply Kd.R_alloc | apply Kd.R_drewN | apply Kd.R_drew)); exact HO_13.out)); (case aS => exact (below_size (by repeat (first | (with_reducible first | exact HB.out | apply below_alloc | apply pw_below_drewN | apply below_drew1 | refine below_set ?_ GE150.out | refine below_set ?_ GE151.out) | exact HB.out)))); (case aL => have := LMc123.out; omega); intro v165 w124 ho hb hg hat; rw [← Ny164.out] at ho; have n0_ := Aside0.mk (blk_grown (g := gb150) (o := .cells #[.int .i64 x151000_2, .string x151001_2, .int .i64 x151002_2, .int .i64 x151003_2] 30 (0, 0)) (by (with_reducible repeat (first | refine blk_drewN ?_ _ | refine blk_drew ?_ | refine blk_alloc ?_ _)); exact BK150.out) hg (Kd.R_ne HO_13.out BK150.out (by decide))); have n1_ := Aside0.mk (blk_grown (g := gb151) (o := .cells #[.int .i64 x152000_2, .string x152001_2, .int .i64 0, .int .i64 a1] 30 (0, 0)) (by (with_reducible repeat (first | refine blk_drewN ?_ _ | refine blk_drew ?_ | refine blk_alloc ?_ _)); exact BK151.out) hg (Kd.R_ne HO_13.out BK151.out (by decide))); have n2_ := Aside0.mk (hb); have n3_ := Aside0.mk (ho); clear BK150; clear BK151; clear HB; clear HO_13; have BK150 := n0_; have BK151 := n1_; have HB := n2_; have HO166 := n3_; clear n0_ n1_ n2_ n3_; clear ho hb hg hat))
                                go_roundg k2
                                case measure => have := HJ5.out; have := HK2.out; omega
                                case rel => exact ⟨(y164), (wrap64 (x14_2 + 1)), (x151000_2), (x151001_2), (x151002_2), (x151003_2), (x152000_2), (x152001_2), (by first | rfl | (simp; done) | (simp [*]; done)), H', ⟨by have := HJ5.out; have := HK2.out; omega⟩, ⟨by (with_reducible repeat (first | apply Kd.R_alloc | apply Kd.R_drewN | apply Kd.R_drew)); exact HO166.out⟩, ⟨by (with_reducible repeat (first | refine blk_drewN ?_ _ | refine blk_drew ?_ | refine blk_alloc ?_ _)); exact BK150.out⟩, ⟨by (with_reducible repeat (first | refine blk_drewN ?_ _ | refine blk_drew ?_ | refine blk_alloc ?_ _)); exact BK151.out⟩, ⟨by repeat (first | (with_reducible first | exact HB.out | apply below_alloc | apply pw_below_drewN | apply below_drew1 | refine below_set ?_ GE150.out | refine below_set ?_ GE151.out) | exact HB.out)⟩⟩
                              · rw [if_neg c123] at H
                                exact absurd H (by simp)
                      · rw [if_neg c83] at H
                        exact absurd H (by simp)
                    · rw [if_neg c82] at H
                      have c82b0 : decide (x14_2 < (a0.size : Int)) = false := decide_eq_false c82
                      clear c82
                      simp only [Option.some.injEq, Prod.mk.injEq] at H
                      obtain ⟨rfl, rfl, rfl, rfl, rfl⟩ := H
                      have hnb125 := NB151_150.out
                      have hnc125 := NB150_151.out
                      have hcz126_0 : wr.cell? ⟨gb151, 0, none⟩ = some (.int .i64 x152000_2) := (blk_cell BK151.out 0).trans rfl
                      have hcz126_1 : wr.cell? ⟨gb151, 1, none⟩ = some (.string x152001_2) := (blk_cell BK151.out 1).trans rfl
                      have hcz126_2 : wr.cell? ⟨gb151, 2, none⟩ = some (.int .i64 0) := (blk_cell BK151.out 2).trans rfl
                      have hcz126_3 : wr.cell? ⟨gb151, 3, none⟩ = some (.int .i64 a1) := (blk_cell BK151.out 3).trans rfl
                      have hfz126_0 := blk_frozen BK151.out 0
                      have hfz126_1 := blk_frozen BK151.out 1
                      have hfz126_2 := blk_frozen BK151.out 2
                      have hfz126_3 := blk_frozen BK151.out 3
                      have hcz127_0 : wr.cell? ⟨gb150, 0, none⟩ = some (.int .i64 x151000_2) := (blk_cell BK150.out 0).trans rfl
                      have hcz127_1 : wr.cell? ⟨gb150, 1, none⟩ = some (.string x151001_2) := (blk_cell BK150.out 1).trans rfl
                      have hcz127_2 : wr.cell? ⟨gb150, 2, none⟩ = some (.int .i64 x151002_2) := (blk_cell BK150.out 2).trans rfl
                      have hcz127_3 : wr.cell? ⟨gb150, 3, none⟩ = some (.int .i64 x151003_2) := (blk_cell BK150.out 3).trans rfl
                      have hfz127_0 := blk_frozen BK150.out 0
                      have hfz127_1 := blk_frozen BK150.out 1
                      have hfz127_2 := blk_frozen BK150.out 2
                      have hfz127_3 := blk_frozen BK150.out 3
                      go_wp2
                      refine bodyPost_ret (results_ct rfl _ _ gb150 30 #[.int .i64 x152000_2, .string x152001_2, .int .i64 0, .int .i64 a1] (0, 0) _ rfl (by (with_reducible repeat (first | refine blk_drewN ?_ _ | refine blk_drew ?_ | refine blk_alloc ?_ _)); refine blk_put (cs := #[.int .i64 x152000_2, .string x152001_2, .int .i64 0, .int .i64 x151003_2]) ?_ 3 _ rfl; (with_reducible repeat (first | refine blk_drewN ?_ _ | refine blk_drew ?_ | refine blk_alloc ?_ _)); refine blk_put (cs := #[.int .i64 x152000_2, .string x152001_2, .int .i64 x151002_2, .int .i64 x151003_2]) ?_ 2 _ rfl; (with_reducible repeat (first | refine blk_drewN ?_ _ | refine blk_drew ?_ | refine blk_alloc ?_ _)); refine blk_put (cs := #[.int .i64 x152000_2, .string x151001_2, .int .i64 x151002_2, .int .i64 x151003_2]) ?_ 1 _ rfl; (with_reducible repeat (first | refine blk_drewN ?_ _ | refine blk_drew ?_ | refine blk_alloc ?_ _)); refine blk_put (cs := #[.int .i64 x151000_2, .string x151001_2, .int .i64 x151002_2, .int .i64 x151003_2]) ?_ 0 _ rfl; (with_reducible repeat (first | refine blk_drewN ?_ _ | refine blk_drew ?_ | refine blk_alloc ?_ _)); exact BK150.out) Tryd.underlying30 rfl (by kernel_rfl)) rfl ?_
                      exact ⟨by first | rfl | (simp [errW_none, errW_some] <;> rfl) | (simp [*, errW_none, errW_some] <;> rfl), by repeat (first | (with_reducible first | exact HB.out | apply below_alloc | apply pw_below_drewN | apply below_drew1 | refine below_set ?_ GE150.out | refine below_set ?_ GE151.out) | exact HB.out)⟩
              · rw [if_neg c81] at H
                have c81b0 : ((bt a0 a1) == 34) = false := beq_eq_false_iff_ne.mpr c81
                have c81b1 : ((bt a0 a1) != 34) = true := bne_iff_ne.mpr c81
                have H' := Aside0.mk H
                clear H
                go_wp2_with (first | ((with_reducible refine gate_callee (f := 20) rfl ?_); refine goesL_ (some 85) rfl rfl Tryd.func20 (by kernel_rfl) rfl #[.int .u8 (bt a0 a1)] rfl (by (try simp only [List.map_toArray, List.map_cons, List.map_nil]); first | done | rfl | (simp only [List.length_drop, List.length_take]; rfl)) ?_; (with_reducible refine (impl_digit.calls (bt a0 a1) false _ A54.out).mono ?_); rintro e w' ⟨rfl, ⟨nd, rfl⟩⟩; refine ⟨_, rfl, ?_⟩; have hxg128 := pw_cell_below HB.out HG900.out))
                go_loopg [188] kj5 (fun kq v188 w' => ∃ (x188_2 : Int) (x151000_2 : Int) (x151001_2 : ByteArray) (x151002_2 : Int) (x151003_2 : Int) (x152000_2 : Int) (x152001_2 : ByteArray), v188 = .int .i64 x188_2 ∧ Aside0 (impl_one.l3 kq a0 a1 signsL (signsL.length : Int) x188_2 x152000_2 x152001_2 0 a1 = some (r1, r2, r3, r4, r5)) ∧ Aside0 (kq ≤ kj5) ∧ Aside0 (w'.heap[gb150]? = some (.cells #[.int .i64 x151000_2, .string x151001_2, .int .i64 x151002_2, .int .i64 x151003_2] 30 (0, 0))) ∧ Aside0 (w'.heap[gb151]? = some (.cells #[.int .i64 x152000_2, .string x152001_2, .int .i64 0, .int .i64 a1] 30 (0, 0))) ∧ Aside0 (Below w.heap.size w w'))
                case atStart => exact ⟨(0), (0), ((⟨#[]⟩ : ByteArray)), (0), (0), (0), ((⟨#[]⟩ : ByteArray)), (by first | rfl | (simp; done) | (simp [*]; done)), H', ⟨Nat.le_refl _⟩, ⟨by (with_reducible repeat (first | refine blk_drewN ?_ _ | refine blk_drew ?_ | refine blk_alloc ?_ _)); exact BK150.out⟩, ⟨by (with_reducible repeat (first | refine blk_drewN ?_ _ | refine blk_drew ?_ | refine blk_alloc ?_ _)); exact BK151.out⟩, ⟨by repeat (first | (with_reducible first | exact HB.out | apply below_alloc | apply pw_below_drewN | apply below_drew1 | refine below_set ?_ GE150.out | refine below_set ?_ GE151.out) | exact HB.out)⟩⟩
                case round =>
                  clear H'
                  try clear c1
                  try clear p1
                  try clear q1
                  try clear hx1
                  try clear c2
                  try clear p2
                  try clear q2
                  try clear hx2
                  try clear c3
                  try clear c4
                  try clear c5
                  try clear p5
                  try clear q5
                  try clear hx5
                  try clear c6
                  try clear p6
                  try clear c7
                  try clear c8
                  try clear p8
                  try clear q8
                  try clear hx8
                  try clear c9
                  try clear hcv9
                  try clear c10
                  try clear p10
                  try clear q10
                  try clear hx10
                  try clear c11
                  try clear p11
                  try clear q11
                  try clear hx11
                  try clear c12
                  try clear p16
                  try clear q16
                  try clear p19
                  try clear q19
                  try clear c20
                  try clear p22
                  try clear q22
                  try clear hx22
                  try clear c23
                  try clear c23b0
                  try clear c23b1
                  try clear p24
                  try clear q24
                  try clear hx24
                  try clear c25
                  try clear c25b0
                  try clear c25b1
                  try clear p26
                  try clear q26
                  try clear hx26
                  try clear c27
                  try clear c27b0
                  try clear c27b1
                  try clear c28
                  try clear c28b0
                  try clear c29
                  try clear c32
                  try clear c32b0
                  try clear c32b1
                  try clear c33
                  try clear c33b0
                  try clear c33b1
                  try clear c34
                  try clear c34b0
                  try clear c34b1
                  try clear c38
                  try clear c41
                  try clear c41b0
                  try clear c42
                  try clear c45
                  try clear c45b0
                  try clear c45b1
                  try clear c46
                  try clear c46b0
                  try clear c46b1
                  try clear c47
                  try clear c47b0
                  try clear c47b1
                  try clear c51
                  try clear c55
                  try clear c57
                  try clear c57b0
                  try clear c58
                  try clear c58b0
                  try clear p59
                  try clear q59
                  try clear hx59
                  try clear c61
                  try clear c62
                  try clear c62b0
                  try clear c62b1
                  try clear c63
                  try clear c63b0
                  try clear c63b1
                  try clear c64
                  try clear c64b0
                  try clear c64b1
                  try clear p64
                  try clear c66
                  try clear c66b0
                  try clear c66b1
                  try clear c67
                  try clear c70
                  try clear c70b0
                  try clear c70b1
                  try clear c70b2
                  try clear c72
                  try clear c72b0
                  try clear c74
                  try clear c78
                  try clear c81
                  try clear c81b0
                  try clear c81b1
                  try clear c82
                  try clear c82b0
                  try clear c83
                  try clear c83b0
                  try clear p84
                  try clear q84
                  try clear hx84
                  try clear c85
                  try clear c85b0
                  try clear c85b1
                  try clear c86
                  try clear c86b0
                  try clear c86b1
                  try clear c88
                  try clear hcv93
                  try clear c97
                  try clear c100
                  try clear c100b0
                  try clear c100b1
                  try clear c101
                  try clear c101b0
                  try clear c101b1
                  try clear c102
                  try clear c106
                  try clear c106b0
                  try clear c107
                  try clear c107b0
                  try clear p108
                  try clear q108
                  try clear hx108
                  try clear c110
                  try clear c110b0
                  try clear c111
                  try clear c114
                  try clear c114b0
                  try clear c115
                  try clear c115b0
                  try clear p116
                  try clear q116
                  try clear hx116
                  try clear c117
                  try clear c119
                  try clear c119b0
                  try clear c120
                  try clear c123
                  try clear c125
                  try clear hcz103_0
                  try clear hcz103_1
                  try clear hcz103_2
                  try clear hcz103_3
                  try clear hcz104_0
                  try clear hcz104_1
                  try clear hcz104_2
                  try clear hcz104_3
                  try clear hcz10_0
                  try clear hcz10_1
                  try clear hcz10_2
                  try clear hcz10_3
                  try clear hcz112_0
                  try clear hcz112_1
                  try clear hcz112_2
                  try clear hcz112_3
                  try clear hcz113_0
                  try clear hcz113_1
                  try clear hcz113_2
                  try clear hcz113_3
                  try clear hcz121_0
                  try clear hcz121_1
                  try clear hcz121_2
                  try clear hcz121_3
                  try clear hcz122_0
                  try clear hcz122_1
                  try clear hcz122_2
                  try clear hcz122_3
                  try clear hcz126_0
                  try clear hcz126_1
                  try clear hcz126_2
                  try clear hcz126_3
                  try clear hcz127_0
                  try clear hcz127_1
                  try clear hcz127_2
                  try clear hcz127_3
                  try clear hcz30_0
                  try clear hcz30_1
                  try clear hcz30_2
                  try clear hcz30_3
                  try clear hcz31_0
                  try clear hcz31_1
                  try clear hcz31_2
                  try clear hcz31_3
                  try clear hcz39_0
                  try clear hcz39_1
                  try clear hcz39_2
                  try clear hcz39_3
                  try clear hcz40_0
                  try clear hcz40_1
                  try clear hcz40_2
                  try clear hcz40_3
                  try clear hcz43_0
                  try clear hcz43_1
                  try clear hcz43_2
                  try clear hcz43_3
                  try clear hcz44_0
                  try clear hcz44_1
                  try clear hcz44_2
                  try clear hcz44_3
                  try clear hcz52_0
                  try clear hcz52_1
                  try clear hcz52_2
                  try clear hcz52_3
                  try clear hcz53_0
                  try clear hcz53_1
                  try clear hcz53_2
                  try clear hcz53_3
                  try clear hcz68_0
                  try clear hcz68_1
                  try clear hcz68_2
                  try clear hcz68_3
                  try clear hcz69_0
                  try clear hcz69_1
                  try clear hcz69_2
                  try clear hcz69_3
                  try clear hcz75_0
                  try clear hcz75_1
                  try clear hcz75_2
                  try clear hcz75_3
                  try clear hcz76_0
                  try clear hcz76_1
                  try clear hcz76_2
                  try clear hcz76_3
                  try clear hcz79_0
                  try clear hcz79_1
                  try clear hcz79_2
                  try clear hcz79_3
                  try clear hcz80_0
                  try clear hcz80_1
                  try clear hcz80_2
                  try clear hcz80_3
                  try clear hcz89_0
                  try clear hcz89_1
                  try clear hcz89_2
                  try clear hcz89_3
                  try clear hcz90_0
                  try clear hcz90_1
                  try clear hcz90_2
                  try clear hcz90_3
                  try clear hcz98_0
                  try clear hcz98_1
                  try clear hcz98_2
                  try clear hcz98_3
                  try clear hcz99_0
                  try clear hcz99_1
                  try clear hcz99_2
                  try clear hcz99_3
                  try clear hfz103_0
                  try clear hfz103_1
                  try clear hfz103_2
                  try clear hfz103_3
                  try clear hfz104_0
                  try clear hfz104_1
                  try clear hfz104_2
                  try clear hfz104_3
                  try clear hfz10_0
                  try clear hfz10_1
                  try clear hfz10_2
                  try clear hfz10_3
                  try clear hfz112_0
                  try clear hfz112_1
                  try clear hfz112_2
                  try clear hfz112_3
                  try clear hfz113_0
                  try clear hfz113_1
                  try clear hfz113_2
                  try clear hfz113_3
                  try clear hfz121_0
                  try clear hfz121_1
                  try clear hfz121_2
                  try clear hfz121_3
                  try clear hfz122_0
                  try clear hfz122_1
                  try clear hfz122_2
                  try clear hfz122_3
                  try clear hfz126_0
                  try clear hfz126_1
                  try clear hfz126_2
                  try clear hfz126_3
                  try clear hfz127_0
                  try clear hfz127_1
                  try clear hfz127_2
                  try clear hfz127_3
                  try clear hfz30_0
                  try clear hfz30_1
                  try clear hfz30_2
                  try clear hfz30_3
                  try clear hfz31_0
                  try clear hfz31_1
                  try clear hfz31_2
                  try clear hfz31_3
                  try clear hfz39_0
                  try clear hfz39_1
                  try clear hfz39_2
                  try clear hfz39_3
                  try clear hfz40_0
                  try clear hfz40_1
                  try clear hfz40_2
                  try clear hfz40_3
                  try clear hfz43_0
                  try clear hfz43_1
                  try clear hfz43_2
                  try clear hfz43_3
                  try clear hfz44_0
                  try clear hfz44_1
                  try clear hfz44_2
                  try clear hfz44_3
                  try clear hfz52_0
                  try clear hfz52_1
                  try clear hfz52_2
                  try clear hfz52_3
                  try clear hfz53_0
                  try clear hfz53_1
                  try clear hfz53_2
                  try clear hfz53_3
                  try clear hfz68_0
                  try clear hfz68_1
                  try clear hfz68_2
                  try clear hfz68_3
                  try clear hfz69_0
                  try clear hfz69_1
                  try clear hfz69_2
                  try clear hfz69_3
                  try clear hfz75_0
                  try clear hfz75_1
                  try clear hfz75_2
                  try clear hfz75_3
                  try clear hfz76_0
                  try clear hfz76_1
                  try clear hfz76_2
                  try clear hfz76_3
                  try clear hfz79_0
                  try clear hfz79_1
                  try clear hfz79_2
                  try clear hfz79_3
                  try clear hfz80_0
                  try clear hfz80_1
                  try clear hfz80_2
                  try clear hfz80_3
                  try clear hfz89_0
                  try clear hfz89_1
                  try clear hfz89_2
                  try clear hfz89_3
                  try clear hfz90_0
                  try clear hfz90_1
                  try clear hfz90_2
                  try clear hfz90_3
                  try clear hfz98_0
                  try clear hfz98_1
                  try clear hfz98_2
                  try clear hfz98_3
                  try clear hfz99_0
                  try clear hfz99_1
                  try clear hfz99_2
                  try clear hfz99_3
                  try clear p1
                  try clear p108
                  try clear p116
                  try clear p16
                  try clear p19
                  try clear p2
                  try clear p22
                  try clear p24
                  try clear p26
                  try clear p5
                  try clear p59
                  try clear p6
                  try clear p64
                  try clear p84
                  try clear q1
                  try clear q108
                  try clear q116
                  try clear q16
                  try clear q19
                  try clear q2
                  try clear q22
                  try clear q24
                  try clear q26
                  try clear q5
                  try clear q59
                  try clear q84
                  obtain ⟨x188_2, x151000_2, x151001_2, x151002_2, x151003_2, x152000_2, x152001_2, rfl, HA, HK2, BK150, BK151, HB⟩ := hrel
                  cases gk with
                  | zero => exact absurd HA.out (by simp [impl_one.l3])
                  | succ k2 =>
                    have H := HA.out
                    clear HA
                    simp only [impl_one.l3] at H
                    by_cases c129 : x188_2 < (signsL.length : Int)
                    · rw [if_pos c129] at H
                      have c129b0 : decide (x188_2 < (signsL.length : Int)) = true := decide_eq_true c129
                      clear c129
                      by_cases c130 : 0 ≤ x188_2
                      · rw [if_pos c130] at H
                        have c130b0 : decide (0 ≤ x188_2) = true := decide_eq_true c130
                        clear c130
                        by_cases c131 : x188_2 < (signsL.length : Int)
                        · rw [if_pos c131] at H
                          have c131b0 : decide (x188_2 < (signsL.length : Int)) = true := decide_eq_true c131
                          clear c131
                          by_cases c132 : 0 ≤ a1
                          · rw [if_pos c132] at H
                            have c132b0 := eq_true c132
                            have c132b1 : decide (0 ≤ a1) = true := decide_eq_true c132
                            clear c132
                            by_cases c133 : a1 ≤ (a0.size : Int)
                            · rw [if_pos c133] at H
                              have c133b0 := eq_true c133
                              have c133b1 : decide (a1 ≤ (a0.size : Int)) = true := decide_eq_true c133
                              clear c133
                              replace H := Option.bind_eq_some_iff.mp H
                              obtain ⟨t168, A1340, H⟩ := H
                              replace H : (if t168 = true then (some (4, rdOf ByteArray.empty signsL x188_2, 0, a1, ((rdOf ByteArray.empty signsL x188_2).size : Int))) else (impl_one.l3 k2 a0 a1 signsL (signsL.length : Int) (wrap64 (x188_2 + 1)) x152000_2 x152001_2 0 a1)) = some (r1, r2, r3, r4, r5) := H
                              have A134 := Aside0.mk A1340
                              clear A1340
                              by_cases c135 : t168 = true
                              · subst c135
                                have H1 : (some (4, rdOf ByteArray.empty signsL x188_2, 0, a1, ((rdOf ByteArray.empty signsL x188_2).size : Int))) = some (r1, r2, r3, r4, r5) := by rw [if_pos rfl] at H; exact H
                                clear H
                                have H := H1
                                clear H1
                                simp only [Option.some.injEq, Prod.mk.injEq] at H
                                obtain ⟨rfl, rfl, rfl, rfl, rfl⟩ := H
                                have p167 : 0 ≤ (x188_2 : Int) := of_decide_eq_true (by first | (with_reducible assumption) | assumption)
                                have q167 : x188_2 < (signsL.length : Int) := of_decide_eq_true (by first | (with_reducible assumption) | assumption)
                                obtain ⟨ad167, e167, hx167_0⟩ := Kd.at_string HR900.out x188_2 p167 q167
                                cases e167
                                replace hx167_0 := (HB.out.cell (World.block_lt_of_cell? w _ hx167_0)).trans hx167_0
                                replace p167 := eq_true p167
                                replace q167 := eq_true q167
                                go_wp2_with (first | ((with_reducible refine gate_callee (f := 24) rfl ?_); refine goesL_ (some 196) rfl rfl Tryd.func24 (by kernel_rfl) rfl #[.string (a0.extract (a1 : Int).toNat a0.size), .string (rdOf ByteArray.empty signsL x188_2)] rfl (by (try simp only [List.map_toArray, List.map_cons, List.map_nil]); first | done | rfl | (simp only [List.length_drop, List.length_take]; rfl)) ?_; (with_reducible refine (strings_HasPrefix.calls (a0.extract (a1 : Int).toNat a0.size) (rdOf ByteArray.empty signsL x188_2) true _ A134.out).mono ?_); rintro e w' ⟨rfl, ⟨nd, rfl⟩⟩; refine ⟨_, rfl, ?_⟩; (try (rw [drewN_self wr]; generalize hq_ : World.drewN wr _ = wr; have n0_ : Aside0 (wr.heap[gb150]? = some (.cells #[.int .i64 x151000_2, .string x151001_2, .int .i64 x151002_2, .int .i64 x151003_2] 30 (0, 0))) := ⟨by rw [← hq_]; exact (by (with_reducible repeat (first | refine blk_drewN ?_ _ | refine blk_drew ?_ | refine blk_alloc ?_ _)); exact BK150.out)⟩; have n1_ : Aside0 (wr.heap[gb151]? = some (.cells #[.int .i64 x152000_2, .string x152001_2, .int .i64 0, .int .i64 a1] 30 (0, 0))) := ⟨by rw [← hq_]; exact (by (with_reducible repeat (first | refine blk_drewN ?_ _ | refine blk_drew ?_ | refine blk_alloc ?_ _)); exact BK151.out)⟩; have n2_ : Aside0 (Below w.heap.size w wr) := ⟨by rw [← hq_]; exact (by repeat (first | (with_reducible first | exact HB.out | apply below_alloc | apply pw_below_drewN | apply below_drew1 | refine below_set ?_ GE150.out | refine below_set ?_ GE151.out) | exact HB.out))⟩; clear BK150 BK151 HB hq_; have BK150 := n0_; have BK151 := n1_; have HB := n2_; clear n0_ n1_ n2_)); have hnb136 := NB151_150.out; have hnc136 := NB150_151.out; have hcz137_0 : wr.cell? ⟨gb151, 0, none⟩ = some (.int .i64 x152000_2) := (blk_cell BK151.out 0).trans rfl; have hcz137_1 : wr.cell? ⟨gb151, 1, none⟩ = some (.string x152001_2) := (blk_cell BK151.out 1).trans rfl; have hcz137_2 : wr.cell? ⟨gb151, 2, none⟩ = some (.int .i64 0) := (blk_cell BK151.out 2).trans rfl; have hcz137_3 : wr.cell? ⟨gb151, 3, none⟩ = some (.int .i64 a1) := (blk_cell BK151.out 3).trans rfl; have hfz137_0 := blk_frozen BK151.out 0; have hfz137_1 := blk_frozen BK151.out 1; have hfz137_2 := blk_frozen BK151.out 2; have hfz137_3 := blk_frozen BK151.out 3; have hcz138_0 : wr.cell? ⟨gb150, 0, none⟩ = some (.int .i64 x151000_2) := (blk_cell BK150.out 0).trans rfl; have hcz138_1 : wr.cell? ⟨gb150, 1, none⟩ = some (.string x151001_2) := (blk_cell BK150.out 1).trans rfl; have hcz138_2 : wr.cell? ⟨gb150, 2, none⟩ = some (.int .i64 x151002_2) := (blk_cell BK150.out 2).trans rfl; have hcz138_3 : wr.cell? ⟨gb150, 3, none⟩ = some (.int .i64 x151003_2) := (blk_cell BK150.out 3).trans rfl; have hfz138_0 := blk_frozen BK150.out 0; have hfz138_1 := blk_frozen BK150.out 1; have hfz138_2 := blk_frozen BK150.out 2; have hfz138_3 := blk_frozen BK150.out 3))
                                refine bodyPost_ret (results_ct rfl _ _ gb150 30 #[.int .i64 4, .string (rdOf ByteArray.empty signsL x188_2), .int .i64 0, .int .i64 a1] (0, 0) _ rfl (by (with_reducible repeat (first | refine blk_drewN ?_ _ | refine blk_drew ?_ | refine blk_alloc ?_ _)); refine blk_put (cs := #[.int .i64 4, .string (rdOf ByteArray.empty signsL x188_2), .int .i64 0, .int .i64 x151003_2]) ?_ 3 _ rfl; (with_reducible repeat (first | refine blk_drewN ?_ _ | refine blk_drew ?_ | refine blk_alloc ?_ _)); refine blk_put (cs := #[.int .i64 4, .string (rdOf ByteArray.empty signsL x188_2), .int .i64 x151002_2, .int .i64 x151003_2]) ?_ 2 _ rfl; (with_reducible repeat (first | refine blk_drewN ?_ _ | refine blk_drew ?_ | refine blk_alloc ?_ _)); refine blk_put (cs := #[.int .i64 4, .string x151001_2, .int .i64 x151002_2, .int .i64 x151003_2]) ?_ 1 _ rfl; (with_reducible repeat (first | refine blk_drewN ?_ _ | refine blk_drew ?_ | refine blk_alloc ?_ _)); refine blk_put (cs := #[.int .i64 x151000_2, .string x151001_2, .int .i64 x151002_2, .int .i64 x151003_2]) ?_ 0 _ rfl; (with_reducible repeat (first | refine blk_drewN ?_ _ | refine blk_drew ?_ | refine blk_alloc ?_ _)); refine blk_far ?_ NB150_151.out _; (with_reducible repeat (first | refine blk_drewN ?_ _ | refine blk_drew ?_ | refine blk_alloc ?_ _)); refine blk_far ?_ NB150_151.out _; (with_reducible repeat (first | refine blk_drewN ?_ _ | refine blk_drew ?_ | refine blk_alloc ?_ _)); exact BK150.out) Tryd.underlying30 rfl (by kernel_rfl)) rfl ?_
                                exact ⟨by first | rfl | (simp [errW_none, errW_some] <;> rfl) | (simp [*, errW_none, errW_some] <;> rfl), by repeat (first | (with_reducible first | exact HB.out | apply below_alloc | apply pw_below_drewN | apply below_drew1 | refine below_set ?_ GE150.out | refine below_set ?_ GE151.out) | exact HB.out)⟩
                              · replace c135 := Bool.eq_false_iff.mpr c135
                                subst c135
                                have H1 : (impl_one.l3 k2 a0 a1 signsL (signsL.length : Int) (wrap64 (x188_2 + 1)) x152000_2 x152001_2 0 a1) = some (r1, r2, r3, r4, r5) := by rw [if_neg (show ¬ (false = true) by decide)] at H; exact H
                                clear H
                                have H := H1
                                clear H1
                                have H' := Aside0.mk H
                                clear H
                                have p167 : 0 ≤ (x188_2 : Int) := of_decide_eq_true (by first | (with_reducible assumption) | assumption)
                                have q167 : x188_2 < (signsL.length : Int) := of_decide_eq_true (by first | (with_reducible assumption) | assumption)
                                obtain ⟨ad167, e167, hx167_0⟩ := Kd.at_string HR900.out x188_2 p167 q167
                                cases e167
                                replace hx167_0 := (HB.out.cell (World.block_lt_of_cell? w _ hx167_0)).trans hx167_0
                                replace p167 := eq_true p167
                                replace q167 := eq_true q167
                                go_wp2_with (first | ((with_reducible refine gate_callee (f := 24) rfl ?_); refine goesL_ (some 196) rfl rfl Tryd.func24 (by kernel_rfl) rfl #[.string (a0.extract (a1 : Int).toNat a0.size), .string (rdOf ByteArray.empty signsL x188_2)] rfl (by (try simp only [List.map_toArray, List.map_cons, List.map_nil]); first | done | rfl | (simp only [List.length_drop, List.length_take]; rfl)) ?_; (with_reducible refine (strings_HasPrefix.calls (a0.extract (a1 : Int).toNat a0.size) (rdOf ByteArray.empty signsL x188_2) false _ A134.out).mono ?_); rintro e w' ⟨rfl, ⟨nd, rfl⟩⟩; refine ⟨_, rfl, ?_⟩))
                                go_roundg k2
                                case measure => have := HJ5.out; have := HK2.out; omega
                                case rel => exact ⟨(wrap64 (x188_2 + 1)), (x151000_2), (x151001_2), (x151002_2), (x151003_2), (x152000_2), (x152001_2), (by first | rfl | (simp; done) | (simp [*]; done)), H', ⟨by have := HJ5.out; have := HK2.out; omega⟩, ⟨by (with_reducible repeat (first | refine blk_drewN ?_ _ | refine blk_drew ?_ | refine blk_alloc ?_ _)); exact BK150.out⟩, ⟨by (with_reducible repeat (first | refine blk_drewN ?_ _ | refine blk_drew ?_ | refine blk_alloc ?_ _)); exact BK151.out⟩, ⟨by repeat (first | (with_reducible first | exact HB.out | apply below_alloc | apply pw_below_drewN | apply below_drew1 | refine below_set ?_ GE150.out | refine below_set ?_ GE151.out) | exact HB.out)⟩⟩
                            · rw [if_neg c133] at H
                              exact absurd H (by simp)
                          · rw [if_neg c132] at H
                            exact absurd H (by simp)
                        · rw [if_neg c131] at H
                          exact absurd H (by simp)
                      · rw [if_neg c130] at H
                        exact absurd H (by simp)
                    · rw [if_neg c129] at H
                      have c129b0 : decide (x188_2 < (signsL.length : Int)) = false := decide_eq_false c129
                      clear c129
                      simp only [Option.some.injEq, Prod.mk.injEq] at H
                      obtain ⟨rfl, rfl, rfl, rfl, rfl⟩ := H
                      have hnb139 := NB151_150.out
                      have hnc139 := NB150_151.out
                      have hcz140_0 : wr.cell? ⟨gb151, 0, none⟩ = some (.int .i64 x152000_2) := (blk_cell BK151.out 0).trans rfl
                      have hcz140_1 : wr.cell? ⟨gb151, 1, none⟩ = some (.string x152001_2) := (blk_cell BK151.out 1).trans rfl
                      have hcz140_2 : wr.cell? ⟨gb151, 2, none⟩ = some (.int .i64 0) := (blk_cell BK151.out 2).trans rfl
                      have hcz140_3 : wr.cell? ⟨gb151, 3, none⟩ = some (.int .i64 a1) := (blk_cell BK151.out 3).trans rfl
                      have hfz140_0 := blk_frozen BK151.out 0
                      have hfz140_1 := blk_frozen BK151.out 1
                      have hfz140_2 := blk_frozen BK151.out 2
                      have hfz140_3 := blk_frozen BK151.out 3
                      have hcz141_0 : wr.cell? ⟨gb150, 0, none⟩ = some (.int .i64 x151000_2) := (blk_cell BK150.out 0).trans rfl
                      have hcz141_1 : wr.cell? ⟨gb150, 1, none⟩ = some (.string x151001_2) := (blk_cell BK150.out 1).trans rfl
                      have hcz141_2 : wr.cell? ⟨gb150, 2, none⟩ = some (.int .i64 x151002_2) := (blk_cell BK150.out 2).trans rfl
                      have hcz141_3 : wr.cell? ⟨gb150, 3, none⟩ = some (.int .i64 x151003_2) := (blk_cell BK150.out 3).trans rfl
                      have hfz141_0 := blk_frozen BK150.out 0
                      have hfz141_1 := blk_frozen BK150.out 1
                      have hfz141_2 := blk_frozen BK150.out 2
                      have hfz141_3 := blk_frozen BK150.out 3
                      go_wp2
                      refine bodyPost_ret (results_ct rfl _ _ gb150 30 #[.int .i64 x152000_2, .string x152001_2, .int .i64 0, .int .i64 a1] (0, 0) _ rfl (by (with_reducible repeat (first | refine blk_drewN ?_ _ | refine blk_drew ?_ | refine blk_alloc ?_ _)); refine blk_put (cs := #[.int .i64 x152000_2, .string x152001_2, .int .i64 0, .int .i64 x151003_2]) ?_ 3 _ rfl; (with_reducible repeat (first | refine blk_drewN ?_ _ | refine blk_drew ?_ | refine blk_alloc ?_ _)); refine blk_put (cs := #[.int .i64 x152000_2, .string x152001_2, .int .i64 x151002_2, .int .i64 x151003_2]) ?_ 2 _ rfl; (with_reducible repeat (first | refine blk_drewN ?_ _ | refine blk_drew ?_ | refine blk_alloc ?_ _)); refine blk_put (cs := #[.int .i64 x152000_2, .string x151001_2, .int .i64 x151002_2, .int .i64 x151003_2]) ?_ 1 _ rfl; (with_reducible repeat (first | refine blk_drewN ?_ _ | refine blk_drew ?_ | refine blk_alloc ?_ _)); refine blk_put (cs := #[.int .i64 x151000_2, .string x151001_2, .int .i64 x151002_2, .int .i64 x151003_2]) ?_ 0 _ rfl; (with_reducible repeat (first | refine blk_drewN ?_ _ | refine blk_drew ?_ | refine blk_alloc ?_ _)); exact BK150.out) Tryd.underlying30 rfl (by kernel_rfl)) rfl ?_
                      exact ⟨by first | rfl | (simp [errW_none, errW_some] <;> rfl) | (simp [*, errW_none, errW_some] <;> rfl), by repeat (first | (with_reducible first | exact HB.out | apply below_alloc | apply pw_below_drewN | apply below_drew1 | refine below_set ?_ GE150.out | refine below_set ?_ GE151.out) | exact HB.out)⟩
    · rw [if_neg c4] at H
      exact absurd H (by simp)
  · rw [if_neg c3] at H
    exact absurd H (by simp)
end Go.Proofs.YthplhhodljpdcaaDoor.P
end

section
namespace Go.Proofs.YthplhhodljpdcaaDoor.P
open Go.RowKit Go.Proofs.YthplhhodljpdcaaDoorW.PrintWords Go.Proofs.YthplhhodljpdcaaDoorW.PrintLast Go.Proofs.YthplhhodljpdcaaDoorW.PrintMore Go.Proofs.YthplhhodljpdcaaDoorM
attribute [local go_sem] max2_int min2_int max_two min_two max_three min_three max_four min_four   -- for this text's walks alone
set_option linter.unusedVariables false
set_option linter.unusedSimpArgs false
def laws_markText.l0 : Nat → Int → ByteArray → Option (ByteArray)
  | 0, _, _ => none
  | k + 1, x0, x3 => if x0 > 0 then ((some (([(wrap64 (48 + (Int.tmod x0 10))) % 256] : List Int) : List Int)).bind fun y183 => (if (strOfNums y183).size + x3.size ≤ 9223372036854775807 then (laws_markText.l0 k (wrap64 (Int.tdiv x0 10)) ((strOfNums y183) ++ x3)) else (none))) else (if 1 + x3.size ≤ 9223372036854775807 then (some ((⟨#[109]⟩ : ByteArray) ++ x3)) else (none))
def laws_markText.f (k : Nat) (a0 : Int) : Option (ByteArray) := if a0 ≤ 0 then (some (⟨#[109, 48]⟩ : ByteArray)) else (laws_markText.l0 k a0 (⟨#[]⟩ : ByteArray))
theorem laws_markText.mono_l : ∀ k, (∀ y0 y1, LeO (laws_markText.l0 k y0 y1) (laws_markText.l0 (k + 1) y0 y1))
  | 0 => fun _ _ r h => by simp [laws_markText.l0] at h
  | k + 1 => by
    have ih0 := laws_markText.mono_l k
    · intro y0 y1
      unfold laws_markText.l0
      repeat' first
      | (with_reducible exact ih0 _ _)
      | (with_reducible exact LeO.refl _)
      | (with_reducible exact LeO.none _)
      | (with_reducible refine LeO.ite ?_ ?_)
      | (with_reducible refine LeO.bind ?_ (fun _ => ?_))
      | exact ih0 _ _
      | exact LeO.none _
      | refine LeO.ite ?_ ?_
      | refine LeO.bind ?_ (fun _ => ?_)
theorem laws_markText.mono : ∀ a0 k, LeO (laws_markText.f k a0) (laws_markText.f (k + 1) a0) := by
  intro a0 k
  have ih0 := laws_markText.mono_l k
  unfold laws_markText.f
  repeat' first
      | (with_reducible exact ih0 _ _)
      | (with_reducible exact LeO.refl _)
      | (with_reducible exact LeO.none _)
      | (with_reducible refine LeO.ite ?_ ?_)
      | (with_reducible refine LeO.bind ?_ (fun _ => ?_))
      | exact ih0 _ _
      | exact LeO.none _
      | refine LeO.ite ?_ ?_
      | refine LeO.bind ?_ (fun _ => ?_)
set_option maxHeartbeats 8000000 in
set_option maxRecDepth 100000 in
theorem laws_markText.calls (k : Nat) (a0 : Int) (r : ByteArray) (w : World) (h : laws_markText.f k a0 = some r) :
    Calls Tryd.prog 13 #[.int .i64 a0] w fun e w' => e = .returned (.string r) ∧ Below w.heap.size w w' := by
  have HB := Aside0.mk (Below.refl w.heap.size w)
  have H : (if a0 ≤ 0 then (some (⟨#[109, 48]⟩ : ByteArray)) else (laws_markText.l0 k a0 (⟨#[]⟩ : ByteArray))) = some r := h
  clear h
  by_cases c2 : a0 ≤ 0
  · rw [if_pos c2] at H
    have c2b0 : decide (a0 ≤ 0) = true := decide_eq_true c2
    clear c2
    obtain rfl := Option.some.inj H
    go_enter Tryd.func13, Tryd.ntmps13
    go_wp2
    go_ret
    exact ⟨by first | rfl | (simp [errW_none, errW_some] <;> rfl) | (simp [*, errW_none, errW_some] <;> rfl), by repeat (first | (with_reducible first | exact HB.out | apply below_alloc | apply pw_below_drewN | apply below_drew1) | exact HB.out)⟩
  · rw [if_neg c2] at H
    have c2b0 : decide (a0 ≤ 0) = false := decide_eq_false c2
    clear c2
    have H' := Aside0.mk H
    clear H
    go_enter Tryd.func13, Tryd.ntmps13
    go_wp2
    go_loopg [0, 3] k (fun kq v0 v3 w' => ∃ (x0_1 : Int) (x3_1 : ByteArray), v0 = .int .i64 x0_1 ∧ v3 = .string x3_1 ∧ Aside0 (laws_markText.l0 kq x0_1 x3_1 = some r) ∧ Aside0 (kq ≤ k) ∧ Aside0 (Below w.heap.size w w'))
    case atStart => exact ⟨(a0), ((⟨#[]⟩ : ByteArray)), (by first | rfl | (simp; done) | (simp [*]; done)), (by first | rfl | (simp; done) | (simp [*]; done)), H', ⟨Nat.le_refl _⟩, ⟨by repeat (first | (with_reducible first | exact HB.out | apply below_alloc | apply pw_below_drewN | apply below_drew1) | exact HB.out)⟩⟩
    case round =>
      clear H'
      try clear c1
      try clear c2
      try clear c2b0
      try clear p2
      obtain ⟨x0_1, x3_1, rfl, rfl, HA, HK1, HB⟩ := hrel
      cases gk with
      | zero => exact absurd HA.out (by simp [laws_markText.l0])
      | succ k1 =>
        have H := HA.out
        clear HA
        simp only [laws_markText.l0] at H
        by_cases c3 : x0_1 > 0
        · rw [if_pos c3] at H
          have c3b0 : decide (0 < x0_1) = true := decide_eq_true c3
          clear c3
          obtain ⟨y183, hy183⟩ : ∃ y_ : List Int, y_ = (([(wrap64 (48 + (Int.tmod x0_1 10))) % 256] : List Int)) := ⟨_, rfl⟩
          replace H : (if (strOfNums y183).size + x3_1.size ≤ 9223372036854775807 then (laws_markText.l0 k1 (wrap64 (Int.tdiv x0_1 10)) ((strOfNums y183) ++ x3_1)) else (none)) = some r := by first | (rw [hy183]; with_reducible exact H) | (have H2_ := (Option.bind_some _ _).symm.trans H; rw [hy183]; with_reducible exact H2_) | (have H2_ := (Option.bind_some _ _).symm.trans H; with_reducible exact H2_) | with_reducible exact H | (rw [hy183]; exact H) | exact H
          have Ny183 := Aside0.mk hy183
          clear hy183
          by_cases c4 : (strOfNums y183).size + x3_1.size ≤ 9223372036854775807
          · rw [if_pos c4] at H
            have c4b0 := eq_true c4
            have c4b1 : decide ((strOfNums y183).size + x3_1.size ≤ 9223372036854775807) = true := decide_eq_true c4
            try have c4b2 : (9223372036854775807 < (strOfNums y183).size + x3_1.size) = False := eq_false (Nat.not_lt.2 c4)
            have H' := Aside0.mk H
            clear H
            go_wp2_with (first | ((with_reducible refine gate_dst (N := 12) rfl ?_); refine Kd.R_lit (Kd.int .u8) _ 5 ?hg (N := 12) ?hd (xs := ([(wrap64 (48 + (Int.tmod x0_1 10))) % 256] : List Int)) (inner := [.int .u8 ((wrap64 (48 + (Int.tmod x0_1 10))) % 256)]) (ok := fun _ => True) (okp := fun _ => True) ?hr ?hp (fun _ hk => hk) trivial (Below.refl _ _) (Nat.le_refl _) (by simp) ?_; (case hd => rfl); (case hg => rfl); (case hr => first | (go_simp; done) | (go_simp; rfl)); (case hp => exact (Reps.one (show Kd.M (Kd.int .u8) _ _ _ ((wrap64 (48 + (Int.tmod x0_1 10))) % 256) [.int .u8 ((wrap64 (48 + (Int.tmod x0_1 10))) % 256)] from rfl) (Reps.none _ _))); intro v184 w5 ho6 hb hg_ hnew_; clear hg_ hnew_; (first | rw [← Ny183.out] at ho6 | (simp only [Int.reduceToNat] at ho6; rw [← Ny183.out] at ho6)); have n0_ := Aside0.mk (Kd.R_lower ho6 (below_size (by repeat (first | (with_reducible first | exact HB.out | apply below_alloc | apply pw_below_drewN | apply below_drew1) | exact HB.out)))); have n1_ := Aside0.mk (below_step (by repeat (first | (with_reducible first | exact HB.out | apply below_alloc | apply pw_below_drewN | apply below_drew1) | exact HB.out)) hb); clear HB; have HO185 := n0_; have HB := n1_; clear n0_ n1_; clear hb ho6; have hcv7 := own_string (P := Tryd.prog) Tryd.underlying44 Tryd.underlying5 Tryd.underlying9 (Kd.own_of_R HO185.out)))
            go_roundg k1
            case measure => have := HK1.out; omega
            case rel => exact ⟨(wrap64 (Int.tdiv x0_1 10)), ((strOfNums y183) ++ x3_1), (by first | rfl | (simp; done) | (simp [*]; done)), (by first | rfl | (simp; done) | (simp [*]; done)), H', ⟨by have := HK1.out; omega⟩, ⟨by repeat (first | (with_reducible first | exact HB.out | apply below_alloc | apply pw_below_drewN | apply below_drew1) | exact HB.out)⟩⟩
          · rw [if_neg c4] at H
            exact absurd H (by simp)
        · rw [if_neg c3] at H
          have c3b0 : decide (0 < x0_1) = false := decide_eq_false c3
          clear c3
          by_cases c8 : 1 + x3_1.size ≤ 9223372036854775807
          · rw [if_pos c8] at H
            have c8b0 := eq_true c8
            have c8b1 : decide (1 + x3_1.size ≤ 9223372036854775807) = true := decide_eq_true c8
            try have c8b2 : (9223372036854775807 < 1 + x3_1.size) = False := eq_false (Nat.not_lt.2 c8)
            obtain rfl := Option.some.inj H
            go_wp2
            go_ret
            exact ⟨by first | rfl | (simp [errW_none, errW_some] <;> rfl) | (simp [*, errW_none, errW_some] <;> rfl), by repeat (first | (with_reducible first | exact HB.out | apply below_alloc | apply pw_below_drewN | apply below_drew1) | exact HB.out)⟩
          · rw [if_neg c8] at H
            exact absurd H (by simp)
def laws_markLexemeS.l0 : Nat → List (S30) → Int → Int → Option (Int × (List (S30)))
  | 0, _, _, _ => none
  | k + 1, x0, x1, x5 => if x5 < (x0.length : Int) then (if 0 ≤ x5 then ((some (x0.set (x5 : Int).toNat (⟨x1, (rd_T30 x0 x5).f1, (rd_T30 x0 x5).f2, (rd_T30 x0 x5).f3⟩ : S30) : List (S30))).bind fun y186 => ((laws_markText.f k (wrap64 (x1 + 1))).bind fun t187 => ((some (y186.set (x5 : Int).toNat (⟨(rd_T30 y186 x5).f0, t187, (rd_T30 y186 x5).f2, (rd_T30 y186 x5).f3⟩ : S30) : List (S30))).bind fun y188 => ((some (y188.set (x5 : Int).toNat (⟨(rd_T30 y188 x5).f0, (rd_T30 y188 x5).f1, wrap64 ((wrap64 (x1 + 1)) + 1), (rd_T30 y188 x5).f3⟩ : S30) : List (S30))).bind fun y189 => (laws_markLexemeS.l0 k (y189.set (x5 : Int).toNat (⟨(rd_T30 y189 x5).f0, (rd_T30 y189 x5).f1, (rd_T30 y189 x5).f2, wrap64 ((wrap64 ((wrap64 (x1 + 1)) + 1)) + 1)⟩ : S30)) (wrap64 ((wrap64 ((wrap64 ((wrap64 (x1 + 1)) + 1)) + 1)) + 1)) (wrap64 (x5 + 1))))))) else (none)) else (some (x1, x0))
def laws_markLexemeS.f (k : Nat) (l0 : List (S30)) (a1 : Int) : Option (Int × (List (S30))) := laws_markLexemeS.l0 k l0 a1 0
set_option maxHeartbeats 8000000 in
set_option maxRecDepth 100000 in
theorem laws_markLexemeS.calls (k : Nat) (P0_ : Nat → Prop) (u9000_ : Value) (l0 : List (S30)) (a1 : Int) (r1 : Int) (r2 : List (S30)) (w0 w : World) (hB : Below w0.heap.size w0 w) (ho0 : Kd.R k30 30 w w0.heap.size P0_ u9000_ l0) (h : laws_markLexemeS.f k l0 a1 = some (r1, r2)) :
    Calls Tryd.prog 7 #[u9000_, .int .i64 a1] w fun e w' => e = .returned (.int .i64 r1) ∧ Kd.R k30 30 w' w0.heap.size (fun k_ => (P0_ k_ ∨ w.heap.size ≤ k_)) u9000_ r2 ∧ Below w0.heap.size w0 w' ∧ Kept w w' (fun k_ => P0_ k_) := by
  have HO0 := Aside0.mk (show Kd.R k30 30 w w0.heap.size (fun k_ => (P0_ k_ ∨ w.heap.size ≤ k_)) u9000_ l0 from Kd.R_mono ho0 (fun k_ hk => (.inl hk)))
  have HK := Aside0.mk (Kept.refl w (fun k_ => P0_ k_))
  have HW0 := Aside0.mk hB.size
  have HB := Aside0.mk hB
  clear hB
  have H : (laws_markLexemeS.l0 k l0 a1 0) = some (r1, r2) := h
  clear h
  have H' := Aside0.mk H
  clear H
  go_enter Tryd.func7, Tryd.ntmps7
  go_wp2
  go_loopg [1, 5] k (fun kq v1 v5 w' => ∃ (x0_1 : List (S30)) (x1_1 : Int) (x5_1 : Int), v1 = .int .i64 x1_1 ∧ v5 = .int .i64 x5_1 ∧ Aside0 (laws_markLexemeS.l0 kq x0_1 x1_1 x5_1 = some (r1, r2)) ∧ Aside0 (kq ≤ k) ∧ Aside0 (Kd.R k30 30 w' w0.heap.size (fun k_ => (P0_ k_ ∨ w.heap.size ≤ k_)) u9000_ x0_1) ∧ Aside0 (Kept w w' (fun k_ => P0_ k_)) ∧ Aside0 (Below w0.heap.size w0 w'))
  case atStart => exact ⟨(l0), (a1), (0), (by first | rfl | (simp; done) | (simp [*]; done)), (by first | rfl | (simp; done) | (simp [*]; done)), H', ⟨Nat.le_refl _⟩, ⟨by (with_reducible repeat (first | apply Kd.R_alloc | apply Kd.R_drewN | apply Kd.R_drew)); exact HO0.out⟩, ⟨by repeat (first | (with_reducible first | exact HK.out | apply Kept.alloc | apply Kept.drewN | apply Kept.drew) | exact HK.out)⟩, ⟨by repeat (first | (with_reducible first | exact HB.out | apply below_alloc | apply pw_below_drewN | apply below_drew1) | exact HB.out)⟩⟩
  case round =>
    clear H'
    try clear p2
    obtain ⟨x0_1, x1_1, x5_1, rfl, rfl, HA, HK1, HO_0, HK, HB⟩ := hrel
    cases gk with
    | zero => exact absurd HA.out (by simp [laws_markLexemeS.l0])
    | succ k1 =>
      have H := HA.out
      clear HA
      simp only [laws_markLexemeS.l0] at H
      by_cases c3 : x5_1 < (x0_1.length : Int)
      · rw [if_pos c3] at H
        have c3b0 : decide (x5_1 < (x0_1.length : Int)) = true := decide_eq_true c3
        clear c3
        by_cases c4 : 0 ≤ x5_1
        · rw [if_pos c4] at H
          have c4b0 : decide (0 ≤ x5_1) = true := decide_eq_true c4
          clear c4
          obtain ⟨y186, hy186⟩ : ∃ y_ : List (S30), y_ = (x0_1.set (x5_1 : Int).toNat (⟨x1_1, (rd_T30 x0_1 x5_1).f1, (rd_T30 x0_1 x5_1).f2, (rd_T30 x0_1 x5_1).f3⟩ : S30)) := ⟨_, rfl⟩
          replace H : ((laws_markText.f k1 (wrap64 (x1_1 + 1))).bind fun t187 => ((some (y186.set (x5_1 : Int).toNat (⟨(rd_T30 y186 x5_1).f0, t187, (rd_T30 y186 x5_1).f2, (rd_T30 y186 x5_1).f3⟩ : S30) : List (S30))).bind fun y188 => ((some (y188.set (x5_1 : Int).toNat (⟨(rd_T30 y188 x5_1).f0, (rd_T30 y188 x5_1).f1, wrap64 ((wrap64 (x1_1 + 1)) + 1), (rd_T30 y188 x5_1).f3⟩ : S30) : List (S30))).bind fun y189 => (laws_markLexemeS.l0 k1 (y189.set (x5_1 : Int).toNat (⟨(rd_T30 y189 x5_1).f0, (rd_T30 y189 x5_1).f1, (rd_T30 y189 x5_1).f2, wrap64 ((wrap64 ((wrap64 (x1_1 + 1)) + 1)) + 1)⟩ : S30)) (wrap64 ((wrap64 ((wrap64 ((wrap64 (x1_1 + 1)) + 1)) + 1)) + 1)) (wrap64 (x5_1 + 1)))))) = some (r1, r2) := by first | (rw [hy186]; with_reducible exact H) | (have H2_ := (Option.bind_some _ _).symm.trans H; rw [hy186]; with_reducible exact H2_) | (have H2_ := (Option.bind_some _ _).symm.trans H; with_reducible exact H2_) | with_reducible exact H | (rw [hy186]; exact H) | exact H
          have Ny186 := Aside0.mk hy186
          clear hy186
          replace H := Option.bind_eq_some_iff.mp H
          obtain ⟨t187, A60, H⟩ := H
          replace H : ((some (y186.set (x5_1 : Int).toNat (⟨(rd_T30 y186 x5_1).f0, t187, (rd_T30 y186 x5_1).f2, (rd_T30 y186 x5_1).f3⟩ : S30) : List (S30))).bind fun y188 => ((some (y188.set (x5_1 : Int).toNat (⟨(rd_T30 y188 x5_1).f0, (rd_T30 y188 x5_1).f1, wrap64 ((wrap64 (x1_1 + 1)) + 1), (rd_T30 y188 x5_1).f3⟩ : S30) : List (S30))).bind fun y189 => (laws_markLexemeS.l0 k1 (y189.set (x5_1 : Int).toNat (⟨(rd_T30 y189 x5_1).f0, (rd_T30 y189 x5_1).f1, (rd_T30 y189 x5_1).f2, wrap64 ((wrap64 ((wrap64 (x1_1 + 1)) + 1)) + 1)⟩ : S30)) (wrap64 ((wrap64 ((wrap64 ((wrap64 (x1_1 + 1)) + 1)) + 1)) + 1)) (wrap64 (x5_1 + 1))))) = some (r1, r2) := H
          have A6 := Aside0.mk A60
          clear A60
          obtain ⟨y188, hy188⟩ : ∃ y_ : List (S30), y_ = (y186.set (x5_1 : Int).toNat (⟨(rd_T30 y186 x5_1).f0, t187, (rd_T30 y186 x5_1).f2, (rd_T30 y186 x5_1).f3⟩ : S30)) := ⟨_, rfl⟩
          replace H : ((some (y188.set (x5_1 : Int).toNat (⟨(rd_T30 y188 x5_1).f0, (rd_T30 y188 x5_1).f1, wrap64 ((wrap64 (x1_1 + 1)) + 1), (rd_T30 y188 x5_1).f3⟩ : S30) : List (S30))).bind fun y189 => (laws_markLexemeS.l0 k1 (y189.set (x5_1 : Int).toNat (⟨(rd_T30 y189 x5_1).f0, (rd_T30 y189 x5_1).f1, (rd_T30 y189 x5_1).f2, wrap64 ((wrap64 ((wrap64 (x1_1 + 1)) + 1)) + 1)⟩ : S30)) (wrap64 ((wrap64 ((wrap64 ((wrap64 (x1_1 + 1)) + 1)) + 1)) + 1)) (wrap64 (x5_1 + 1)))) = some (r1, r2) := by first | (rw [hy188]; with_reducible exact H) | (have H2_ := (Option.bind_some _ _).symm.trans H; rw [hy188]; with_reducible exact H2_) | (have H2_ := (Option.bind_some _ _).symm.trans H; with_reducible exact H2_) | with_reducible exact H | (rw [hy188]; exact H) | exact H
          have Ny188 := Aside0.mk hy188
          clear hy188
          obtain ⟨y189, hy189⟩ : ∃ y_ : List (S30), y_ = (y188.set (x5_1 : Int).toNat (⟨(rd_T30 y188 x5_1).f0, (rd_T30 y188 x5_1).f1, wrap64 ((wrap64 (x1_1 + 1)) + 1), (rd_T30 y188 x5_1).f3⟩ : S30)) := ⟨_, rfl⟩
          replace H : (laws_markLexemeS.l0 k1 (y189.set (x5_1 : Int).toNat (⟨(rd_T30 y189 x5_1).f0, (rd_T30 y189 x5_1).f1, (rd_T30 y189 x5_1).f2, wrap64 ((wrap64 ((wrap64 (x1_1 + 1)) + 1)) + 1)⟩ : S30)) (wrap64 ((wrap64 ((wrap64 ((wrap64 (x1_1 + 1)) + 1)) + 1)) + 1)) (wrap64 (x5_1 + 1))) = some (r1, r2) := by first | (rw [hy189]; with_reducible exact H) | (have H2_ := (Option.bind_some _ _).symm.trans H; rw [hy189]; with_reducible exact H2_) | (have H2_ := (Option.bind_some _ _).symm.trans H; with_reducible exact H2_) | with_reducible exact H | (rw [hy189]; exact H) | exact H
          have Ny189 := Aside0.mk hy189
          clear hy189
          obtain ⟨y190, hy190⟩ : ∃ y_ : List (S30), y_ = (y189.set (x5_1 : Int).toNat (⟨(rd_T30 y189 x5_1).f0, (rd_T30 y189 x5_1).f1, (rd_T30 y189 x5_1).f2, wrap64 ((wrap64 ((wrap64 (x1_1 + 1)) + 1)) + 1)⟩ : S30)) := ⟨_, rfl⟩
          replace H : (laws_markLexemeS.l0 k1 y190 (wrap64 ((wrap64 ((wrap64 ((wrap64 (x1_1 + 1)) + 1)) + 1)) + 1)) (wrap64 (x5_1 + 1))) = some (r1, r2) := by first | (rw [hy190]; with_reducible exact H) | (have H2_ := (Option.bind_some _ _).symm.trans H; rw [hy190]; with_reducible exact H2_) | (have H2_ := (Option.bind_some _ _).symm.trans H; with_reducible exact H2_) | with_reducible exact H | (rw [hy190]; exact H) | exact H
          have Ny190 := Aside0.mk hy190
          clear hy190
          have H' := Aside0.mk H
          clear H
          obtain ⟨Ao10, co10, eo10⟩ := Kd.R_slice HO_0.out
          subst eo10
          have p5 : 0 ≤ (x5_1 : Int) := of_decide_eq_true (by first | (with_reducible assumption) | assumption)
          have q5 : (x5_1 : Int) < ((x0_1.length : Int) : Int) := of_decide_eq_true (by first | (with_reducible assumption) | assumption)
          obtain ⟨go5, co5, eo5, gb5, gl5, cl5, HG5⟩ := Kd.R_form HO_0.out (by omega)
          (first | cases eo5 | (injection eo5 with ea_ en_ ec_; (first | subst ea_ | (injection ea_ with ea_; subst ea_)); subst ec_; clear en_))
          have GB5 := Aside0.mk gb5
          have GG5 := Aside0.mk HG5
          clear gb5 gl5 HG5
          have HMgo5 := Aside0.mk (show (P0_ go5 ∨ w.heap.size ≤ go5) from (HO_0.out.1 _ rfl))
          obtain ⟨ce5, hcl5, hM5, hcc5, hfr5⟩ := Kd.R_elem HO_0.out z30 (x5_1 : Int) p5 q5
          obtain rfl := k30_openM hM5
          have hx5_0 : wr.cell? ⟨go5, (x5_1 : Int).toNat * 4, none⟩ = some (.int .i64 ((rd_T30 x0_1 x5_1).f0)) := hcc5 0 _ rfl
          have hx5_1 : wr.cell? ⟨go5, (x5_1 : Int).toNat * 4 + 1, none⟩ = some (.string ((rd_T30 x0_1 x5_1).f1)) := hcc5 1 _ rfl
          have hx5_2 : wr.cell? ⟨go5, (x5_1 : Int).toNat * 4 + 2, none⟩ = some (.int .i64 ((rd_T30 x0_1 x5_1).f2)) := hcc5 2 _ rfl
          have hx5_3 : wr.cell? ⟨go5, (x5_1 : Int).toNat * 4 + 3, none⟩ = some (.int .i64 ((rd_T30 x0_1 x5_1).f3)) := hcc5 3 _ rfl
          have hf5_0 : wr.frozen? ⟨go5, (x5_1 : Int).toNat * 4, none⟩ = false := hfr5 0
          have hf5_1 : wr.frozen? ⟨go5, (x5_1 : Int).toNat * 4 + 1, none⟩ = false := hfr5 1
          have hf5_2 : wr.frozen? ⟨go5, (x5_1 : Int).toNat * 4 + 2, none⟩ = false := hfr5 2
          have hf5_3 : wr.frozen? ⟨go5, (x5_1 : Int).toNat * 4 + 3, none⟩ = false := hfr5 3
          clear hcl5 hcc5 hfr5
          (try clear hM5)
          replace p5 := eq_true p5
          replace q5 := eq_true q5
          have HX11 := Aside0.mk (show Kd.R k30 30 wr w0.heap.size (fun k_ => (P0_ k_ ∨ w.heap.size ≤ k_)) (.slice (some ⟨go5, 0, none⟩) x0_1.length co10) x0_1 from (by (with_reducible repeat (first | apply Kd.R_alloc | apply Kd.R_drewN | apply Kd.R_drew)); exact HO_0.out))
          obtain ⟨ce11, hcl11, hM11, hcc11, hfr11⟩ := Kd.R_elem HX11.out z30 (x5_1 : Int) (of_decide_eq_true (by first | (with_reducible assumption) | assumption)) (by have h_ : (x5_1 : Int) < ((x0_1.length : Int) : Int) := of_decide_eq_true (by first | (with_reducible assumption) | assumption); first | exact h_ | (have e_ := (Kd.R_reads' HO_0.out).1; omega) | simpa using h_)
          obtain rfl := k30_openM hM11
          have HP11 := Kd.R_seg HX11.out (x5_1 : Int) (of_decide_eq_true (by first | (with_reducible assumption) | assumption)) (by have h_ : (x5_1 : Int) < ((x0_1.length : Int) : Int) := of_decide_eq_true (by first | (with_reducible assumption) | assumption); first | exact h_ | (have e_ := (Kd.R_reads' HO_0.out).1; omega) | simpa using h_) (seg := [.int .i64 x1_1]) (j := 0) hcl11 hcc11 (show 1 ≤ 4 from by decide) (x' := (⟨x1_1, (rd_T30 x0_1 x5_1).f1, (rd_T30 x0_1 x5_1).f2, (rd_T30 x0_1 x5_1).f3⟩ : S30)) (k30_mkM _ _ _ (⟨x1_1, (rd_T30 x0_1 x5_1).f1, (rd_T30 x0_1 x5_1).f2, (rd_T30 x0_1 x5_1).f3⟩ : S30) ) (fun _ hk => hk)
          have hx11_0 := hcc11 0 _ rfl
          (try simp only [show (k30).sz = 4 from rfl, Nat.mul_one, Nat.add_zero] at hx11_0)
          have hf11_0 := hfr11 0
          (try simp only [show (k30).sz = 4 from rfl, Nat.mul_one, Nat.add_zero] at hf11_0)
          clear hcl11 hcc11 hfr11
          (try clear hM11)
          go_wp2_with (first | ((with_reducible refine gate_store (t := 2) (p := 16) rfl ?_); refine store_event (t := 2) (p := 16) (v := ?vo_w12) (w1 := (wr.setCell ⟨go5, (x5_1 : Int).toNat * 4, none⟩ (.int .i64 x1_1))) ?hg ?ho ?hn ?hr ?_; (case ho => rfl); (case hg => rfl); (case hn => rfl); (case hr => first | (go_simp; done) | (go_simp; rfl)); intro w12 hw; have hg : wr.grownBy w12 (some go5) := (by rw [hw]; exact HP11.2); have hp_ : Kd.R k30 30 w12 w0.heap.size (fun k_ => (P0_ k_ ∨ w.heap.size ≤ k_)) (.slice (some ⟨go5, 0, none⟩) x0_1.length co10) y186 := (by rw [hw, Ny186.out]; exact HP11.1); clear HP11; have n0_ := Aside0.mk (hp_); have n1_ := Aside0.mk ((by rw [hw]; exact below_set (HB.out) GB5.out : Below w0.heap.size w0 w12)); have n2_ := Aside0.mk (Kept.of_grown (S := (fun k_ => P0_ k_)) hg (by repeat (first | (with_reducible first | exact HK.out | apply Kept.alloc | apply Kept.drewN | apply Kept.drew) | exact HK.out)) (fun k_ e_ => (HO_0.out.1 k_ e_))); clear HO_0; clear HB; clear HK; have HO_0 := n0_; have HB := n1_; have HK := n2_; clear n0_ n1_ n2_; clear hg hw hp_) | ((with_reducible refine gate_callee (f := 13) rfl ?_); refine goesL_ (some 22) rfl rfl Tryd.func13 (by kernel_rfl) rfl #[.int .i64 (wrap64 (x1_1 + 1))] rfl (by (try simp only [List.map_toArray, List.map_cons, List.map_nil]); first | done | rfl | (simp only [List.length_drop, List.length_take]; rfl)) ?_; (with_reducible refine (laws_markText.calls k1 (wrap64 (x1_1 + 1)) t187 _ A6.out).mono ?_); rintro e w13 ⟨rfl, hb⟩; refine ⟨_, rfl, ?_⟩; have n0_ := Aside0.mk (Kd.R_below (by (with_reducible repeat (first | apply Kd.R_alloc | apply Kd.R_drewN | apply Kd.R_drew)); exact HO_0.out) hb); have n1_ := Aside0.mk (Kept.below (S := (fun k_ => P0_ k_)) (by repeat (first | (with_reducible first | exact HK.out | apply Kept.alloc | apply Kept.drewN | apply Kept.drew) | exact HK.out)) hb); have n2_ := Aside0.mk (below_step (by repeat (first | (with_reducible first | exact HB.out | apply below_alloc | apply pw_below_drewN | apply below_drew1) | exact HB.out)) hb); clear HO_0; clear HK; clear HB; have HO_0 := n0_; have HK := n1_; have HB := n2_; clear n0_ n1_ n2_; (try clear hb); (try clear hb2); (try clear hk); (try clear hi); have p7 : 0 ≤ (x5_1 : Int) := of_decide_eq_true (by first | (with_reducible assumption) | assumption); have q7 : (x5_1 : Int) < ((x0_1.length : Int) : Int) := of_decide_eq_true (by first | (with_reducible assumption) | assumption); obtain ⟨ce7, hcl7, hM7, hcc7, hfr7⟩ := Kd.R_elem HO_0.out z30 (x5_1 : Int) p7 q7; obtain rfl := k30_openM hM7; have hx7_0 : w13.cell? ⟨go5, (x5_1 : Int).toNat * 4, none⟩ = some (.int .i64 ((rd_T30 y186 x5_1).f0)) := hcc7 0 _ rfl; have hx7_1 : w13.cell? ⟨go5, (x5_1 : Int).toNat * 4 + 1, none⟩ = some (.string ((rd_T30 y186 x5_1).f1)) := hcc7 1 _ rfl; have hx7_2 : w13.cell? ⟨go5, (x5_1 : Int).toNat * 4 + 2, none⟩ = some (.int .i64 ((rd_T30 y186 x5_1).f2)) := hcc7 2 _ rfl; have hx7_3 : w13.cell? ⟨go5, (x5_1 : Int).toNat * 4 + 3, none⟩ = some (.int .i64 ((rd_T30 y186 x5_1).f3)) := hcc7 3 _ rfl; have hf7_0 : w13.frozen? ⟨go5, (x5_1 : Int).toNat * 4, none⟩ = false := hfr7 0; have hf7_1 : w13.frozen? ⟨go5, (x5_1 : Int).toNat * 4 + 1, none⟩ = false := hfr7 1; have hf7_2 : w13.frozen? ⟨go5, (x5_1 : Int).toNat * 4 + 2, none⟩ = false := hfr7 2; have hf7_3 : w13.frozen? ⟨go5, (x5_1 : Int).toNat * 4 + 3, none⟩ = false := hfr7 3; clear hcl7 hcc7 hfr7; (try clear hM7); replace p7 := eq_true p7; replace q7 := eq_true q7; have HX14 := Aside0.mk (show Kd.R k30 30 w13 w0.heap.size (fun k_ => (P0_ k_ ∨ w.heap.size ≤ k_)) (.slice (some ⟨go5, 0, none⟩) x0_1.length co10) y186 from (by (with_reducible repeat (first | apply Kd.R_alloc | apply Kd.R_drewN | apply Kd.R_drew)); exact HO_0.out)); obtain ⟨ce14, hcl14, hM14, hcc14, hfr14⟩ := Kd.R_elem HX14.out z30 (x5_1 : Int) (of_decide_eq_true (by first | (with_reducible assumption) | assumption)) (by have h_ : (x5_1 : Int) < ((x0_1.length : Int) : Int) := of_decide_eq_true (by first | (with_reducible assumption) | assumption); first | exact h_ | (have e_ := (Kd.R_reads' HO_0.out).1; omega) | simpa using h_); obtain rfl := k30_openM hM14; have HP14 := Kd.R_seg HX14.out (x5_1 : Int) (of_decide_eq_true (by first | (with_reducible assumption) | assumption)) (by have h_ : (x5_1 : Int) < ((x0_1.length : Int) : Int) := of_decide_eq_true (by first | (with_reducible assumption) | assumption); first | exact h_ | (have e_ := (Kd.R_reads' HO_0.out).1; omega) | simpa using h_) (seg := [.string t187]) (j := 1) hcl14 hcc14 (show 2 ≤ 4 from by decide) (x' := (⟨(rd_T30 y186 x5_1).f0, t187, (rd_T30 y186 x5_1).f2, (rd_T30 y186 x5_1).f3⟩ : S30)) (k30_mkM _ _ _ (⟨(rd_T30 y186 x5_1).f0, t187, (rd_T30 y186 x5_1).f2, (rd_T30 y186 x5_1).f3⟩ : S30) ) (fun _ hk => hk); have hx14_1 := hcc14 1 _ rfl; (try simp only [show (k30).sz = 4 from rfl, Nat.mul_one, Nat.add_zero] at hx14_1); have hf14_1 := hfr14 1; (try simp only [show (k30).sz = 4 from rfl, Nat.mul_one, Nat.add_zero] at hf14_1); clear hcl14 hcc14 hfr14; (try clear hM14)) | ((with_reducible refine gate_store (t := 9) (p := 24) rfl ?_); refine store_event (t := 9) (p := 24) (v := ?vo_w15) (w1 := (w13.setCell ⟨go5, (x5_1 : Int).toNat * 4 + 1, none⟩ (.string t187))) ?hg ?ho ?hn ?hr ?_; (case ho => rfl); (case hg => rfl); (case hn => rfl); (case hr => first | (go_simp; done) | (go_simp; rfl)); intro w15 hw; have hg : w13.grownBy w15 (some go5) := (by rw [hw]; exact HP14.2); have hp_ : Kd.R k30 30 w15 w0.heap.size (fun k_ => (P0_ k_ ∨ w.heap.size ≤ k_)) (.slice (some ⟨go5, 0, none⟩) x0_1.length co10) y188 := (by rw [hw, Ny188.out]; exact HP14.1); clear HP14; have n0_ := Aside0.mk (hp_); have n1_ := Aside0.mk ((by rw [hw]; exact below_set (HB.out) GB5.out : Below w0.heap.size w0 w15)); have n2_ := Aside0.mk (Kept.of_grown (S := (fun k_ => P0_ k_)) hg (by repeat (first | (with_reducible first | exact HK.out | apply Kept.alloc | apply Kept.drewN | apply Kept.drew) | exact HK.out)) (fun k_ e_ => (HO_0.out.1 k_ e_))); clear HO_0; clear HB; clear HK; have HO_0 := n0_; have HB := n1_; have HK := n2_; clear n0_ n1_ n2_; clear hg hw hp_; have p8 : 0 ≤ (x5_1 : Int) := of_decide_eq_true (by first | (with_reducible assumption) | assumption); have q8 : (x5_1 : Int) < ((x0_1.length : Int) : Int) := of_decide_eq_true (by first | (with_reducible assumption) | assumption); obtain ⟨ce8, hcl8, hM8, hcc8, hfr8⟩ := Kd.R_elem HO_0.out z30 (x5_1 : Int) p8 q8; obtain rfl := k30_openM hM8; have hx8_0 : w15.cell? ⟨go5, (x5_1 : Int).toNat * 4, none⟩ = some (.int .i64 ((rd_T30 y188 x5_1).f0)) := hcc8 0 _ rfl; have hx8_1 : w15.cell? ⟨go5, (x5_1 : Int).toNat * 4 + 1, none⟩ = some (.string ((rd_T30 y188 x5_1).f1)) := hcc8 1 _ rfl; have hx8_2 : w15.cell? ⟨go5, (x5_1 : Int).toNat * 4 + 2, none⟩ = some (.int .i64 ((rd_T30 y188 x5_1).f2)) := hcc8 2 _ rfl; have hx8_3 : w15.cell? ⟨go5, (x5_1 : Int).toNat * 4 + 3, none⟩ = some (.int .i64 ((rd_T30 y188 x5_1).f3)) := hcc8 3 _ rfl; have hf8_0 : w15.frozen? ⟨go5, (x5_1 : Int).toNat * 4, none⟩ = false := hfr8 0; have hf8_1 : w15.frozen? ⟨go5, (x5_1 : Int).toNat * 4 + 1, none⟩ = false := hfr8 1; have hf8_2 : w15.frozen? ⟨go5, (x5_1 : Int).toNat * 4 + 2, none⟩ = false := hfr8 2; have hf8_3 : w15.frozen? ⟨go5, (x5_1 : Int).toNat * 4 + 3, none⟩ = false := hfr8 3; clear hcl8 hcc8 hfr8; (try clear hM8); replace p8 := eq_true p8; replace q8 := eq_true q8; have HX16 := Aside0.mk (show Kd.R k30 30 w15 w0.heap.size (fun k_ => (P0_ k_ ∨ w.heap.size ≤ k_)) (.slice (some ⟨go5, 0, none⟩) x0_1.length co10) y188 from (by (with_reducible repeat (first | apply Kd.R_alloc | apply Kd.R_drewN | apply Kd.R_drew)); exact HO_0.out)); obtain ⟨ce16, hcl16, hM16, hcc16, hfr16⟩ := Kd.R_elem HX16.out z30 (x5_1 : Int) (of_decide_eq_true (by first | (with_reducible assumption) | assumption)) (by have h_ : (x5_1 : Int) < ((x0_1.length : Int) : Int) := of_decide_eq_true (by first | (with_reducible assumption) | assumption); first | exact h_ | (have e_ := (Kd.R_reads' HO_0.out).1; omega) | simpa using h_); obtain rfl := k30_openM hM16; have HP16 := Kd.R_seg HX16.out (x5_1 : Int) (of_decide_eq_true (by first | (with_reducible assumption) | assumption)) (by have h_ : (x5_1 : Int) < ((x0_1.length : Int) : Int) := of_decide_eq_true (by first | (with_reducible assumption) | assumption); first | exact h_ | (have e_ := (Kd.R_reads' HO_0.out).1; omega) | simpa using h_) (seg := [.int .i64 (wrap64 ((wrap64 (x1_1 + 1)) + 1))]) (j := 2) hcl16 hcc16 (show 3 ≤ 4 from by decide) (x' := (⟨(rd_T30 y188 x5_1).f0, (rd_T30 y188 x5_1).f1, wrap64 ((wrap64 (x1_1 + 1)) + 1), (rd_T30 y188 x5_1).f3⟩ : S30)) (k30_mkM _ _ _ (⟨(rd_T30 y188 x5_1).f0, (rd_T30 y188 x5_1).f1, wrap64 ((wrap64 (x1_1 + 1)) + 1), (rd_T30 y188 x5_1).f3⟩ : S30) ) (fun _ hk => hk); have hx16_2 := hcc16 2 _ rfl; (try simp only [show (k30).sz = 4 from rfl, Nat.mul_one, Nat.add_zero] at hx16_2); have hf16_2 := hfr16 2; (try simp only [show (k30).sz = 4 from rfl, Nat.mul_one, Nat.add_zero] at hf16_2); clear hcl16 hcc16 hfr16; (try clear hM16)) | ((with_reducible refine gate_store (t := 2) (p := 31) rfl ?_); refine store_event (t := 2) (p := 31) (v := ?vo_w17) (w1 := (w15.setCell ⟨go5, (x5_1 : Int).toNat * 4 + 2, none⟩ (.int .i64 (wrap64 ((wrap64 (x1_1 + 1)) + 1))))) ?hg ?ho ?hn ?hr ?_; (case ho => rfl); (case hg => rfl); (case hn => rfl); (case hr => first | (go_simp; done) | (go_simp; rfl)); intro w17 hw; have hg : w15.grownBy w17 (some go5) := (by rw [hw]; exact HP16.2); have hp_ : Kd.R k30 30 w17 w0.heap.size (fun k_ => (P0_ k_ ∨ w.heap.size ≤ k_)) (.slice (some ⟨go5, 0, none⟩) x0_1.length co10) y189 := (by rw [hw, Ny189.out]; exact HP16.1); clear HP16; have n0_ := Aside0.mk (hp_); have n1_ := Aside0.mk ((by rw [hw]; exact below_set (HB.out) GB5.out : Below w0.heap.size w0 w17)); have n2_ := Aside0.mk (Kept.of_grown (S := (fun k_ => P0_ k_)) hg (by repeat (first | (with_reducible first | exact HK.out | apply Kept.alloc | apply Kept.drewN | apply Kept.drew) | exact HK.out)) (fun k_ e_ => (HO_0.out.1 k_ e_))); clear HO_0; clear HB; clear HK; have HO_0 := n0_; have HB := n1_; have HK := n2_; clear n0_ n1_ n2_; clear hg hw hp_; have p9 : 0 ≤ (x5_1 : Int) := of_decide_eq_true (by first | (with_reducible assumption) | assumption); have q9 : (x5_1 : Int) < ((x0_1.length : Int) : Int) := of_decide_eq_true (by first | (with_reducible assumption) | assumption); obtain ⟨ce9, hcl9, hM9, hcc9, hfr9⟩ := Kd.R_elem HO_0.out z30 (x5_1 : Int) p9 q9; obtain rfl := k30_openM hM9; have hx9_0 : w17.cell? ⟨go5, (x5_1 : Int).toNat * 4, none⟩ = some (.int .i64 ((rd_T30 y189 x5_1).f0)) := hcc9 0 _ rfl; have hx9_1 : w17.cell? ⟨go5, (x5_1 : Int).toNat * 4 + 1, none⟩ = some (.string ((rd_T30 y189 x5_1).f1)) := hcc9 1 _ rfl; have hx9_2 : w17.cell? ⟨go5, (x5_1 : Int).toNat * 4 + 2, none⟩ = some (.int .i64 ((rd_T30 y189 x5_1).f2)) := hcc9 2 _ rfl; have hx9_3 : w17.cell? ⟨go5, (x5_1 : Int).toNat * 4 + 3, none⟩ = some (.int .i64 ((rd_T30 y189 x5_1).f3)) := hcc9 3 _ rfl; have hf9_0 : w17.frozen? ⟨go5, (x5_1 : Int).toNat * 4, none⟩ = false := hfr9 0; have hf9_1 : w17.frozen? ⟨go5, (x5_1 : Int).toNat * 4 + 1, none⟩ = false := hfr9 1; have hf9_2 : w17.frozen? ⟨go5, (x5_1 : Int).toNat * 4 + 2, none⟩ = false := hfr9 2; have hf9_3 : w17.frozen? ⟨go5, (x5_1 : Int).toNat * 4 + 3, none⟩ = false := hfr9 3; clear hcl9 hcc9 hfr9; (try clear hM9); replace p9 := eq_true p9; replace q9 := eq_true q9; have HX18 := Aside0.mk (show Kd.R k30 30 w17 w0.heap.size (fun k_ => (P0_ k_ ∨ w.heap.size ≤ k_)) (.slice (some ⟨go5, 0, none⟩) x0_1.length co10) y189 from (by (with_reducible repeat (first | apply Kd.R_alloc | apply Kd.R_drewN | apply Kd.R_drew)); exact HO_0.out)); obtain ⟨ce18, hcl18, hM18, hcc18, hfr18⟩ := Kd.R_elem HX18.out z30 (x5_1 : Int) (of_decide_eq_true (by first | (with_reducible assumption) | assumption)) (by have h_ : (x5_1 : Int) < ((x0_1.length : Int) : Int) := of_decide_eq_true (by first | (with_reducible assumption) | assumption); first | exact h_ | (have e_ := (Kd.R_reads' HO_0.out).1; omega) | simpa using h_); obtain rfl := k30_openM hM18; have HP18 := Kd.R_seg HX18.out (x5_1 : Int) (of_decide_eq_true (by first | (with_reducible assumption) | assumption)) (by have h_ : (x5_1 : Int) < ((x0_1.length : Int) : Int) := of_decide_eq_true (by first | (with_reducible assumption) | assumption); first | exact h_ | (have e_ := (Kd.R_reads' HO_0.out).1; omega) | simpa using h_) (seg := [.int .i64 (wrap64 ((wrap64 ((wrap64 (x1_1 + 1)) + 1)) + 1))]) (j := 3) hcl18 hcc18 (show 4 ≤ 4 from by decide) (x' := (⟨(rd_T30 y189 x5_1).f0, (rd_T30 y189 x5_1).f1, (rd_T30 y189 x5_1).f2, wrap64 ((wrap64 ((wrap64 (x1_1 + 1)) + 1)) + 1)⟩ : S30)) (k30_mkM _ _ _ (⟨(rd_T30 y189 x5_1).f0, (rd_T30 y189 x5_1).f1, (rd_T30 y189 x5_1).f2, wrap64 ((wrap64 ((wrap64 (x1_1 + 1)) + 1)) + 1)⟩ : S30) ) (fun _ hk => hk); have hx18_3 := hcc18 3 _ rfl; (try simp only [show (k30).sz = 4 from rfl, Nat.mul_one, Nat.add_zero] at hx18_3); have hf18_3 := hfr18 3; (try simp only [show (k30).sz = 4 from rfl, Nat.mul_one, Nat.add_zero] at hf18_3); clear hcl18 hcc18 hfr18; (try clear hM18)) | ((with_reducible refine gate_store (t := 2) (p := 38) rfl ?_); refine store_event (t := 2) (p := 38) (v := ?vo_w19) (w1 := (w17.setCell ⟨go5, (x5_1 : Int).toNat * 4 + 3, none⟩ (.int .i64 (wrap64 ((wrap64 ((wrap64 (x1_1 + 1)) + 1)) + 1))))) ?hg ?ho ?hn ?hr ?_; (case ho => rfl); (case hg => rfl); (case hn => rfl); (case hr => first | (go_simp; done) | (go_simp; rfl)); intro w19 hw; have hg : w17.grownBy w19 (some go5) := (by rw [hw]; exact HP18.2); have hp_ : Kd.R k30 30 w19 w0.heap.size (fun k_ => (P0_ k_ ∨ w.heap.size ≤ k_)) (.slice (some ⟨go5, 0, none⟩) x0_1.length co10) y190 := (by rw [hw, Ny190.out]; exact HP18.1); clear HP18; have n0_ := Aside0.mk (hp_); have n1_ := Aside0.mk ((by rw [hw]; exact below_set (HB.out) GB5.out : Below w0.heap.size w0 w19)); have n2_ := Aside0.mk (Kept.of_grown (S := (fun k_ => P0_ k_)) hg (by repeat (first | (with_reducible first | exact HK.out | apply Kept.alloc | apply Kept.drewN | apply Kept.drew) | exact HK.out)) (fun k_ e_ => (HO_0.out.1 k_ e_))); clear HO_0; clear HB; clear HK; have HO_0 := n0_; have HB := n1_; have HK := n2_; clear n0_ n1_ n2_; clear hg hw hp_))
          go_roundg k1
          case measure => have := HK1.out; omega
          case rel => exact ⟨(y190), (wrap64 ((wrap64 ((wrap64 ((wrap64 (x1_1 + 1)) + 1)) + 1)) + 1)), (wrap64 (x5_1 + 1)), (by first | rfl | (simp; done) | (simp [*]; done)), (by first | rfl | (simp; done) | (simp [*]; done)), H', ⟨by have := HK1.out; omega⟩, ⟨by (with_reducible repeat (first | apply Kd.R_alloc | apply Kd.R_drewN | apply Kd.R_drew)); exact HO_0.out⟩, ⟨by repeat (first | (with_reducible first | exact HK.out | apply Kept.alloc | apply Kept.drewN | apply Kept.drew) | exact HK.out)⟩, ⟨by repeat (first | (with_reducible first | exact HB.out | apply below_alloc | apply pw_below_drewN | apply below_drew1) | exact HB.out)⟩⟩
        · rw [if_neg c4] at H
          exact absurd H (by simp)
      · rw [if_neg c3] at H
        have c3b0 : decide (x5_1 < (x0_1.length : Int)) = false := decide_eq_false c3
        clear c3
        simp only [Option.some.injEq, Prod.mk.injEq] at H
        obtain ⟨rfl, rfl⟩ := H
        obtain ⟨Ao20, co20, eo20⟩ := Kd.R_slice HO_0.out
        subst eo20
        go_wp2
        go_ret
        exact ⟨by first | rfl | (simp [errW_none, errW_some] <;> rfl) | (simp [*, errW_none, errW_some] <;> rfl), by (with_reducible repeat (first | apply Kd.R_alloc | apply Kd.R_drewN | apply Kd.R_drew)); exact HO_0.out, by repeat (first | (with_reducible first | exact HB.out | apply below_alloc | apply pw_below_drewN | apply below_drew1) | exact HB.out), by repeat (first | (with_reducible first | exact HK.out | apply Kept.alloc | apply Kept.drewN | apply Kept.drew) | exact HK.out)⟩
end Go.Proofs.YthplhhodljpdcaaDoor.P
end
