/- Texts of Trb, put together by program. -/
import Derived.Test.YtjnmcgeahomkeaaDoorMTrb2
import Derived.Test.YtjnmcgeahomkeaaDoorMTrb3
import Derived.Test.YtjnmcgeahomkeaaDoorMTrb5

section
namespace Go.Proofs.YtjnmcgeahomkeaaDoor.P
open Go.RowKit Go.Proofs.YtjnmcgeahomkeaaDoorW.PrintWords Go.Proofs.YtjnmcgeahomkeaaDoorW.PrintLast Go.Proofs.YtjnmcgeahomkeaaDoorW.PrintMore Go.Proofs.YtjnmcgeahomkeaaDoorM
attribute [local go_sem] max2_int min2_int max_two min_two max_three min_three max_four min_four
set_option linter.unusedVariables false
set_option linter.unusedSimpArgs false
set_option maxHeartbeats 8000000
set_option maxRecDepth 100000
mutual
def spec_l10DrawEntry.j0 : Nat → Bool → List Int → Int → Int → ByteArray → Int → ByteArray → Bool → Option (ByteArray × Int × ByteArray × Bool × Int × Int)
 | 0, _, _, _, _, _, _, _, _ => none
 | k + 1, x27, x1000, x1001, x1002, x256000, x256001, x256002, x256003 => if x27 = true then (spec_l10DrawEntry.j1 k x1000 x1001 x1002 x256000 1 x256002 x256003) else (spec_l10DrawEntry.j1 k x1000 x1001 x1002 x256000 x256001 x256002 x256003)
def spec_l10DrawEntry.j1 : Nat → List Int → Int → Int → ByteArray → Int → ByteArray → Bool → Option (ByteArray × Int × ByteArray × Bool × Int × Int)
 | 0, _, _, _, _, _, _, _ => none
 | k + 1, x1000, x1001, x1002, x256000, x256001, x256002, x256003 => if x256001 = 1 then (spec_l10DrawEntry.j2 k x1000 x1001 x1002 x256000 x256001 x256002 x256003) else ((spec_l10DrawData.f k x1000 x1001 x1002).bind fun bt256 => (if bt256.1.size + 1 ≤ 9223372036854775807 then (if x256001 = 2 then ((spec_l1Once.f x1000 bt256.2.1 bt256.2.2 3).bind fun bt259 => (spec_l10DrawEntry.j2 k x1000 bt259.2.1 bt259.2.2 x256000 x256001 (bt256.1 ++ (⟨#[100]⟩ : ByteArray)) bt259.1)) else (spec_l10DrawEntry.j2 k x1000 bt256.2.1 bt256.2.2 x256000 x256001 (bt256.1 ++ (⟨#[100]⟩ : ByteArray)) false)) else (none)))
def spec_l10DrawEntry.j2 : Nat → List Int → Int → Int → ByteArray → Int → ByteArray → Bool → Option (ByteArray × Int × ByteArray × Bool × Int × Int)
 | 0, _, _, _, _, _, _, _ => none
 | k + 1, x1000, x1001, x1002, x256000, x256001, x256002, x256003 => (spec_l1Once.f x1000 x1001 x1002 30).bind fun bt262 => (if bt262.1 = true then ((spec_l1Below.f x1000 bt262.2.1 bt262.2.2 5).bind fun bt265 => (if bt265.1 = 0 then ((some (([(⟨#[]⟩ : ByteArray), (⟨#[47, 97]⟩ : ByteArray), (⟨#[97, 47]⟩ : ByteArray), (⟨#[97, 47, 47, 98]⟩ : ByteArray), (⟨#[46, 120]⟩ : ByteArray), (⟨#[97, 47, 98, 47, 99, 47, 100, 47, 101, 47, 102, 47, 103, 47, 104, 47, 105]⟩ : ByteArray)] : List ByteArray) : List ByteArray)).bind fun y268 => ((spec_l1Below.f x1000 bt265.2.1 bt265.2.2 6).bind fun bt271 => (if 0 ≤ bt271.1 then (if bt271.1 < (y268.length : Int) then (some (rdOf ByteArray.empty y268 bt271.1, x256001, x256002, x256003, bt271.2.1, bt271.2.2)) else (none)) else (none)))) else (if bt265.1 = 1 then ((some (([0, 4] : List Int) : List Int)).bind fun y275 => ((spec_l1Below.f x1000 bt265.2.1 bt265.2.2 2).bind fun bt278 => (if 0 ≤ bt278.1 then (if bt278.1 < (y275.length : Int) then (some (x256000, rd y275 bt278.1, x256002, x256003, bt278.2.1, bt278.2.2)) else (none)) else (none)))) else (if bt265.1 = 2 then (some (x256000, x256001, x256002, true, bt265.2.1, bt265.2.2)) else (if bt265.1 = 3 then (some (x256000, x256001, (⟨#[]⟩ : ByteArray), x256003, bt265.2.1, bt265.2.2)) else (if bt265.1 = 4 then (if 20001 ≤ 281474976710656 then (some (x256000, x256001, strOfNums (List.replicate 20001 0), x256003, bt265.2.1, bt265.2.2)) else (none)) else (some (x256000, x256001, x256002, x256003, bt265.2.1, bt265.2.2)))))))) else (some (x256000, x256001, x256002, x256003, bt262.2.1, bt262.2.2)))
end
def spec_l10DrawEntry.f (k : Nat) (s0_0 : List Int) (s0_1 : Int) (s0_2 : Int) : Option (ByteArray × Int × ByteArray × Bool × Int × Int) := (spec_l10DrawPath.f s0_0 s0_1 s0_2).bind fun bt249 => ((spec_l1Below.f s0_0 bt249.2.1 bt249.2.2 3).bind fun bt252 => (if bt249.1.toList = ([98, 105, 110] : List UInt8) then (spec_l10DrawEntry.j0 k true s0_0 bt252.2.1 bt252.2.2 bt249.1 (wrap64 (1 + bt252.1)) (⟨#[]⟩ : ByteArray) false) else (if bt249.1.toList = ([108, 105, 98] : List UInt8) then (spec_l10DrawEntry.j0 k true s0_0 bt252.2.1 bt252.2.2 bt249.1 (wrap64 (1 + bt252.1)) (⟨#[]⟩ : ByteArray) false) else (if bt249.1.toList = ([100, 111, 99] : List UInt8) then (spec_l10DrawEntry.j0 k true s0_0 bt252.2.1 bt252.2.2 bt249.1 (wrap64 (1 + bt252.1)) (⟨#[]⟩ : ByteArray) false) else (spec_l10DrawEntry.j0 k (bt249.1.toList == ([100, 111, 99, 47, 97] : List UInt8)) s0_0 bt252.2.1 bt252.2.2 bt249.1 (wrap64 (1 + bt252.1)) (⟨#[]⟩ : ByteArray) false)))))
theorem spec_l10DrawEntry.calls (k : Nat) (g : Nat) (s0_0 : List Int) (s0_1 : Int) (s0_2 : Int) (r1 : ByteArray) (r2 : Int) (r3 : ByteArray) (r4 : Bool) (r5 : Int) (r6 : Int) (w0 w : World) (hI : IsS72 w0 w g s0_0 s0_1 s0_2) (hB : Below w0.heap.size w0 w) (h : spec_l10DrawEntry.f k s0_0 s0_1 s0_2 = some (r1, r2, r3, r4, r5, r6)) :
 Calls Tryd.prog 26 #[.pointer (some ⟨g, 0, none⟩)] w fun e w' => e = .returned (.agg #[.string r1, .int .i64 r2, .string r3, .bool r4]) ∧ IsS72 w0 w' g s0_0 r5 r6 ∧ Below w0.heap.size w0 w' ∧ KeepBut w w' g none := by
 have hu29 := Tryd.underlying29
 have HI0 := Aside0.mk hI
 have HK := Aside0.mk (KeepBut.refl w g none)
 have HL := Aside0.mk hB.size
 clear hI
 have HW0 := Aside0.mk hB.size
 have HB := Aside0.mk hB
 clear hB
 have H : ((spec_l10DrawPath.f s0_0 s0_1 s0_2).bind fun bt249 => ((spec_l1Below.f s0_0 bt249.2.1 bt249.2.2 3).bind fun bt252 => (if bt249.1.toList = ([98, 105, 110] : List UInt8) then (spec_l10DrawEntry.j0 k true s0_0 bt252.2.1 bt252.2.2 bt249.1 (wrap64 (1 + bt252.1)) (⟨#[]⟩ : ByteArray) false) else (if bt249.1.toList = ([108, 105, 98] : List UInt8) then (spec_l10DrawEntry.j0 k true s0_0 bt252.2.1 bt252.2.2 bt249.1 (wrap64 (1 + bt252.1)) (⟨#[]⟩ : ByteArray) false) else (if bt249.1.toList = ([100, 111, 99] : List UInt8) then (spec_l10DrawEntry.j0 k true s0_0 bt252.2.1 bt252.2.2 bt249.1 (wrap64 (1 + bt252.1)) (⟨#[]⟩ : ByteArray) false) else (spec_l10DrawEntry.j0 k (bt249.1.toList == ([100, 111, 99, 47, 97] : List UInt8)) s0_0 bt252.2.1 bt252.2.2 bt249.1 (wrap64 (1 + bt252.1)) (⟨#[]⟩ : ByteArray) false)))))) = some (r1, r2, r3, r4, r5, r6) := h
 clear h
 replace H := Option.bind_eq_some_iff.mp H
 obtain ⟨⟨t249, t250, t251⟩, A20, H⟩ := H
 have A2 := Aside0.mk A20
 clear A20
 replace H := Option.bind_eq_some_iff.mp H
 obtain ⟨⟨t252, t253, t254⟩, A30, H⟩ := H
 have A3 := Aside0.mk A30
 clear A30
 have HC4 := Aside0.mk H
 clear H
 go_enter Tryd.func26, Tryd.ntmps26
 go_upto_region 2 with (first | ((with_reducible refine gate_dst (N := 2) rfl ?_); refine bE_ 2 #[.string (⟨#[]⟩ : ByteArray), .int .i64 0, .string (⟨#[]⟩ : ByteArray), .bool false] 29 ?_; intro gb248 hg w5 hbox hb; replace HB := Aside0.mk (below_step (bwg_ HB (IsS72.ge HI0.out)) hb); have BK248 := Aside0.mk (hbox); have GW248 := Aside0.mk ((by rw [hg]; exact (keep_size (w := w) (g := g) (row := none) (kb_ HK)) : w.heap.size ≤ gb248)); have GE248 := Aside0.mk ((Nat.le_trans HW0.out (by rw [hg]; exact (keep_size (w := w) (g := g) (row := none) (kb_ HK)) : w.heap.size ≤ gb248) : w0.heap.size ≤ gb248)); replace HK := Aside0.mk (KeepBut.trans (kb_ HK) (KeepBut.of_below hb g none) (.inl rfl)); have NB0_248 := Aside0.mk ((by rw [hg]; exact Nat.ne_of_lt (IsS72.lt (show IsS72 w0 _ g s0_0 s0_1 s0_2 from is72_ HI0)) : g ≠ gb248)); have NB248_0 := Aside0.mk ((by rw [hg]; exact Nat.ne_of_gt (IsS72.lt (show IsS72 w0 _ g s0_0 s0_1 s0_2 from is72_ HI0)) : gb248 ≠ g)); replace HI0 := Aside0.mk (IsS72.below (is72_ HI0) hb); clear hb hbox hg) | ((with_reducible refine gate_callee (f := 49) rfl ?_); refine gL_ (some 5) Tryd.func49 #[.pointer (some ⟨g, 0, none⟩)] ?_; (with_reducible refine (spec_l10DrawPath.calls g s0_0 s0_1 s0_2 t249 t250 t251 w0 _ ?side1 ?side2 A2.out).mono ?_); (case side1 => repeat (first | (with_reducible first | exact HI0.out | apply IsS72.alloc | apply IsS72.drewN | apply IsS72.drew | apply IsS72.set_1 | apply IsS72.set_2 | refine IsS72.far ?_ NB0_248.out _) | exact HI0.out)); (case side2 => repeat (first | (with_reducible first | exact HB.out | apply below_alloc | apply pw_below_drewN | apply below_drew1 | refine below_set ?_ (IsS72.ge HI0.out) | refine below_set ?_ GE248.out) | exact HB.out)); rintro e w6 ⟨rfl, hi, hb, hk⟩; refine ⟨_, rfl, ?_⟩; replace BK248 := Aside0.mk (KeepBut.blk hk (g' := gb248) (o := .cells #[.string (⟨#[]⟩ : ByteArray), .int .i64 0, .string (⟨#[]⟩ : ByteArray), .bool false] 29 (0, 0)) (bk_ BK248) NB248_0.out (by simp)); replace HK := Aside0.mk (KeepBut.trans (by repeat (first | (with_reducible first | exact HK.out | apply KeepBut.set_ | apply keep_drewN | apply keep_drew | apply keep_alloc | refine keep_far ?_ GW248.out _) | exact HK.out)) hk (.inl rfl)); replace HB := Aside0.mk (hb); replace HI0 := Aside0.mk (hi); clear hb hk hi) | ((with_reducible refine gate_callee (f := 32) rfl ?_); refine gL_ (some 7) Tryd.func32 #[.pointer (some ⟨g, 0, none⟩), .int .i64 3] ?_; (with_reducible refine (spec_l1Below.calls g s0_0 t250 t251 3 t252 t253 t254 w0 _ ?side1 ?side2 A3.out).mono ?_); (case side1 => repeat (first | (with_reducible first | exact HI0.out | apply IsS72.alloc | apply IsS72.drewN | apply IsS72.drew | apply IsS72.set_1 | apply IsS72.set_2 | refine IsS72.far ?_ NB0_248.out _) | exact HI0.out)); (case side2 => repeat (first | (with_reducible first | exact HB.out | apply below_alloc | apply pw_below_drewN | apply below_drew1 | refine below_set ?_ (IsS72.ge HI0.out) | refine below_set ?_ GE248.out) | exact HB.out)); rintro e w7 ⟨rfl, hi, hb, hk⟩; refine ⟨_, rfl, ?_⟩; replace BK248 := Aside0.mk (KeepBut.blk hk (g' := gb248) (o := .cells #[.string (⟨#[]⟩ : ByteArray), .int .i64 0, .string (⟨#[]⟩ : ByteArray), .bool false] 29 (0, 0)) (bk_ BK248) NB248_0.out (by simp)); replace HK := Aside0.mk (KeepBut.trans (by repeat (first | (with_reducible first | exact HK.out | apply KeepBut.set_ | apply keep_drewN | apply keep_drew | apply keep_alloc | refine keep_far ?_ GW248.out _) | exact HK.out)) hk (.inl rfl)); replace HB := Aside0.mk (hb); replace HI0 := Aside0.mk (hi); clear hb hk hi) | ((with_reducible refine gate_dst (N := 3) rfl ?_); refine bE_ 3 #[.string (⟨#[]⟩ : ByteArray), .int .i64 0, .string (⟨#[]⟩ : ByteArray), .bool false] 29 ?_; intro gb255 hg w8 hbox hb; replace HB := Aside0.mk (below_step (by repeat (first | (with_reducible first | exact HB.out | apply below_alloc | apply pw_below_drewN | apply below_drew1 | refine below_set ?_ (IsS72.ge HI0.out) | refine below_set ?_ GE248.out) | exact HB.out)) hb); have BK255 := Aside0.mk (hbox); have GW255 := Aside0.mk ((by rw [hg]; exact (keep_size (w := w) (g := g) (row := none) (by repeat (first | (with_reducible first | exact HK.out | apply KeepBut.set_ | apply keep_drewN | apply keep_drew | apply keep_alloc | refine keep_far ?_ GW248.out _) | exact HK.out))) : w.heap.size ≤ gb255)); have GE255 := Aside0.mk ((Nat.le_trans HW0.out (by rw [hg]; exact (keep_size (w := w) (g := g) (row := none) (by repeat (first | (with_reducible first | exact HK.out | apply KeepBut.set_ | apply keep_drewN | apply keep_drew | apply keep_alloc | refine keep_far ?_ GW248.out _) | exact HK.out))) : w.heap.size ≤ gb255) : w0.heap.size ≤ gb255)); replace HK := Aside0.mk (KeepBut.trans (by repeat (first | (with_reducible first | exact HK.out | apply KeepBut.set_ | apply keep_drewN | apply keep_drew | apply keep_alloc | refine keep_far ?_ GW248.out _) | exact HK.out)) (KeepBut.of_below hb g none) (.inl rfl)); have NB248_255 := Aside0.mk ((by rw [hg]; exact Nat.ne_of_lt (blk_lt (bk_ BK248)) : gb248 ≠ gb255)); have NB255_248 := Aside0.mk ((by rw [hg]; exact Nat.ne_of_gt (blk_lt (bk_ BK248)) : gb255 ≠ gb248)); replace BK248 := Aside0.mk (blk_below (bk_ BK248) hb); have NB0_255 := Aside0.mk ((by rw [hg]; exact Nat.ne_of_lt (IsS72.lt (show IsS72 w0 _ g s0_0 t253 t254 from by repeat (first | (with_reducible first | exact HI0.out | apply IsS72.alloc | apply IsS72.drewN | apply IsS72.drew | apply IsS72.set_1 | apply IsS72.set_2 | refine IsS72.far ?_ NB0_248.out _) | exact HI0.out))) : g ≠ gb255)); have NB255_0 := Aside0.mk ((by rw [hg]; exact Nat.ne_of_gt (IsS72.lt (show IsS72 w0 _ g s0_0 t253 t254 from by repeat (first | (with_reducible first | exact HI0.out | apply IsS72.alloc | apply IsS72.drewN | apply IsS72.drew | apply IsS72.set_1 | apply IsS72.set_2 | refine IsS72.far ?_ NB0_248.out _) | exact HI0.out))) : gb255 ≠ g)); replace HI0 := Aside0.mk (IsS72.below (by repeat (first | (with_reducible first | exact HI0.out | apply IsS72.alloc | apply IsS72.drewN | apply IsS72.drew | apply IsS72.set_1 | apply IsS72.set_2 | refine IsS72.far ?_ NB0_248.out _) | exact HI0.out)) hb); clear hb hbox hg; have hnb9 := NB255_248.out; have hnc9 := NB248_255.out; have hnb10 := NB255_0.out; have hnc10 := NB0_255.out; obtain ⟨hcz11_0, hcz11_1, hcz11_2, hcz11_3, hfz11_0, hfz11_1, hfz11_2, hfz11_3⟩ := zc4_ BK255))
 (try simp only [Act.put, List.setIfInBounds_toArray, List.set_cons_zero, List.set_cons_succ])
 go_cut [27] (fun v27 wc => ∃ (kq : Nat) (x27_3 : Bool), v27 = .bool x27_3 ∧ Aside0 (spec_l10DrawEntry.j0 kq x27_3 s0_0 t253 t254 t249 (wrap64 (1 + t252)) (⟨#[]⟩ : ByteArray) false = some (r1, r2, r3, r4, r5, r6)) ∧ Aside0 (kq ≤ k) ∧ Aside0 (wc.heap[gb248]? = some (.cells #[.string (⟨#[]⟩ : ByteArray), .int .i64 0, .string (⟨#[]⟩ : ByteArray), .bool false] 29 (0, 0))) ∧ Aside0 (wc.heap[gb255]? = some (.cells #[.string t249, .int .i64 (wrap64 (1 + t252)), .string (⟨#[]⟩ : ByteArray), .bool false] 29 (0, 0))) ∧ Aside0 (IsS72 w0 wc g s0_0 t253 t254) ∧ Aside0 (KeepBut w wc g none) ∧ Aside0 (Below w0.heap.size w0 wc))
 case first =>
  have H := HC4.out
  clear HC4
  by_cases c12 : t249.toList = ([98, 105, 110] : List UInt8)
  {
  rw [if_pos c12] at H
  have c12b0 : (t249.toList == ([98, 105, 110] : List UInt8)) = true := beq_iff_eq.mpr c12
  have c12b1 : (t249.toList != ([98, 105, 110] : List UInt8)) = false := bne_eq_false_iff_eq.mpr c12
  clear c12
  (first | rw [c12b0] | (simp only [i64_w, i32_w]; rw [c12b0]) | skip)
  have H' := Aside0.mk H
  clear H
  have hnb13 := NB255_248.out
  have hnc13 := NB248_255.out
  have hnb14 := NB255_0.out
  have hnc14 := NB0_255.out
  obtain ⟨hcz15_0, hcz15_1, hcz15_2, hcz15_3, hfz15_0, hfz15_1, hfz15_2, hfz15_3⟩ := zc4_ BK255
  go_wp2
  go_meet
  case rel => exact ⟨_, (true), (by first | rfl | (simp; done) | (simp [*]; done)), H', ⟨by first | omega | exact Nat.le_refl _⟩, ⟨by (with_reducible repeat (first | refine blk_drewN ?_ _ | refine blk_drew ?_ | refine blk_alloc ?_ _)); refine blk_far ?_ NB248_255.out _; (with_reducible repeat (first | refine blk_drewN ?_ _ | refine blk_drew ?_ | refine blk_alloc ?_ _)); refine blk_far ?_ NB248_255.out _; (with_reducible repeat (first | refine blk_drewN ?_ _ | refine blk_drew ?_ | refine blk_alloc ?_ _)); refine blk_far ?_ NB248_255.out _; (with_reducible repeat (first | refine blk_drewN ?_ _ | refine blk_drew ?_ | refine blk_alloc ?_ _)); refine blk_far ?_ NB248_255.out _; exact bk_ BK248⟩, ⟨by (with_reducible repeat (first | refine blk_drewN ?_ _ | refine blk_drew ?_ | refine blk_alloc ?_ _)); refine blk_put (cs := #[.string t249, .int .i64 (wrap64 (1 + t252)), .string (⟨#[]⟩ : ByteArray), .bool false]) ?_ 3 _ rfl; (with_reducible repeat (first | refine blk_drewN ?_ _ | refine blk_drew ?_ | refine blk_alloc ?_ _)); refine blk_put (cs := #[.string t249, .int .i64 (wrap64 (1 + t252)), .string (⟨#[]⟩ : ByteArray), .bool false]) ?_ 2 _ rfl; (with_reducible repeat (first | refine blk_drewN ?_ _ | refine blk_drew ?_ | refine blk_alloc ?_ _)); refine blk_put (cs := #[.string t249, .int .i64 0, .string (⟨#[]⟩ : ByteArray), .bool false]) ?_ 1 _ rfl; (with_reducible repeat (first | refine blk_drewN ?_ _ | refine blk_drew ?_ | refine blk_alloc ?_ _)); refine blk_put (cs := #[.string (⟨#[]⟩ : ByteArray), .int .i64 0, .string (⟨#[]⟩ : ByteArray), .bool false]) ?_ 0 _ rfl; exact bk_ BK255⟩, ⟨by repeat (first | (with_reducible first | exact HI0.out | apply IsS72.alloc | apply IsS72.drewN | apply IsS72.drew | apply IsS72.set_1 | apply IsS72.set_2 | refine IsS72.far ?_ NB0_248.out _ | refine IsS72.far ?_ NB0_255.out _) | exact HI0.out)⟩, ⟨by repeat (first | (with_reducible first | exact HK.out | apply KeepBut.set_ | apply keep_drewN | apply keep_drew | apply keep_alloc | refine keep_far ?_ GW248.out _ | refine keep_far ?_ GW255.out _) | exact HK.out)⟩, ⟨by repeat (first | (with_reducible first | exact HB.out | apply below_alloc | apply pw_below_drewN | apply below_drew1 | refine below_set ?_ (IsS72.ge HI0.out) | refine below_set ?_ GE248.out | refine below_set ?_ GE255.out) | exact HB.out)⟩⟩}
  {
  rw [if_neg c12] at H
  have c12b0 : (t249.toList == ([98, 105, 110] : List UInt8)) = false := beq_eq_false_iff_ne.mpr c12
  have c12b1 : (t249.toList != ([98, 105, 110] : List UInt8)) = true := bne_iff_ne.mpr c12
  (first | rw [c12b0] | (simp only [i64_w, i32_w]; rw [c12b0]) | skip)
  by_cases c16 : t249.toList = ([108, 105, 98] : List UInt8)
  {
  rw [if_pos c16] at H
  have c16b0 : (t249.toList == ([108, 105, 98] : List UInt8)) = true := beq_iff_eq.mpr c16
  have c16b1 : (t249.toList != ([108, 105, 98] : List UInt8)) = false := bne_eq_false_iff_eq.mpr c16
  clear c16
  have H' := Aside0.mk H
  clear H
  have hnb17 := NB255_248.out
  have hnc17 := NB248_255.out
  have hnb18 := NB255_0.out
  have hnc18 := NB0_255.out
  obtain ⟨hcz19_0, hcz19_1, hcz19_2, hcz19_3, hfz19_0, hfz19_1, hfz19_2, hfz19_3⟩ := zc4_ BK255
  go_wp2
  go_meet
  case rel => exact ⟨_, (true), (by first | rfl | (simp; done) | (simp [*]; done)), H', ⟨by first | omega | exact Nat.le_refl _⟩, ⟨by (with_reducible repeat (first | refine blk_drewN ?_ _ | refine blk_drew ?_ | refine blk_alloc ?_ _)); refine blk_far ?_ NB248_255.out _; (with_reducible repeat (first | refine blk_drewN ?_ _ | refine blk_drew ?_ | refine blk_alloc ?_ _)); refine blk_far ?_ NB248_255.out _; (with_reducible repeat (first | refine blk_drewN ?_ _ | refine blk_drew ?_ | refine blk_alloc ?_ _)); refine blk_far ?_ NB248_255.out _; (with_reducible repeat (first | refine blk_drewN ?_ _ | refine blk_drew ?_ | refine blk_alloc ?_ _)); refine blk_far ?_ NB248_255.out _; exact bk_ BK248⟩, ⟨by (with_reducible repeat (first | refine blk_drewN ?_ _ | refine blk_drew ?_ | refine blk_alloc ?_ _)); refine blk_put (cs := #[.string t249, .int .i64 (wrap64 (1 + t252)), .string (⟨#[]⟩ : ByteArray), .bool false]) ?_ 3 _ rfl; (with_reducible repeat (first | refine blk_drewN ?_ _ | refine blk_drew ?_ | refine blk_alloc ?_ _)); refine blk_put (cs := #[.string t249, .int .i64 (wrap64 (1 + t252)), .string (⟨#[]⟩ : ByteArray), .bool false]) ?_ 2 _ rfl; (with_reducible repeat (first | refine blk_drewN ?_ _ | refine blk_drew ?_ | refine blk_alloc ?_ _)); refine blk_put (cs := #[.string t249, .int .i64 0, .string (⟨#[]⟩ : ByteArray), .bool false]) ?_ 1 _ rfl; (with_reducible repeat (first | refine blk_drewN ?_ _ | refine blk_drew ?_ | refine blk_alloc ?_ _)); refine blk_put (cs := #[.string (⟨#[]⟩ : ByteArray), .int .i64 0, .string (⟨#[]⟩ : ByteArray), .bool false]) ?_ 0 _ rfl; exact bk_ BK255⟩, ⟨by repeat (first | (with_reducible first | exact HI0.out | apply IsS72.alloc | apply IsS72.drewN | apply IsS72.drew | apply IsS72.set_1 | apply IsS72.set_2 | refine IsS72.far ?_ NB0_248.out _ | refine IsS72.far ?_ NB0_255.out _) | exact HI0.out)⟩, ⟨by repeat (first | (with_reducible first | exact HK.out | apply KeepBut.set_ | apply keep_drewN | apply keep_drew | apply keep_alloc | refine keep_far ?_ GW248.out _ | refine keep_far ?_ GW255.out _) | exact HK.out)⟩, ⟨by repeat (first | (with_reducible first | exact HB.out | apply below_alloc | apply pw_below_drewN | apply below_drew1 | refine below_set ?_ (IsS72.ge HI0.out) | refine below_set ?_ GE248.out | refine below_set ?_ GE255.out) | exact HB.out)⟩⟩}
  {
  rw [if_neg c16] at H
  have c16b0 : (t249.toList == ([108, 105, 98] : List UInt8)) = false := beq_eq_false_iff_ne.mpr c16
  have c16b1 : (t249.toList != ([108, 105, 98] : List UInt8)) = true := bne_iff_ne.mpr c16
  by_cases c20 : t249.toList = ([100, 111, 99] : List UInt8)
  {
  rw [if_pos c20] at H
  have c20b0 : (t249.toList == ([100, 111, 99] : List UInt8)) = true := beq_iff_eq.mpr c20
  have c20b1 : (t249.toList != ([100, 111, 99] : List UInt8)) = false := bne_eq_false_iff_eq.mpr c20
  clear c20
  have H' := Aside0.mk H
  clear H
  have hnb21 := NB255_248.out
  have hnc21 := NB248_255.out
  have hnb22 := NB255_0.out
  have hnc22 := NB0_255.out
  obtain ⟨hcz23_0, hcz23_1, hcz23_2, hcz23_3, hfz23_0, hfz23_1, hfz23_2, hfz23_3⟩ := zc4_ BK255
  go_wp2
  go_meet
  case rel => exact ⟨_, (true), (by first | rfl | (simp; done) | (simp [*]; done)), H', ⟨by first | omega | exact Nat.le_refl _⟩, ⟨by (with_reducible repeat (first | refine blk_drewN ?_ _ | refine blk_drew ?_ | refine blk_alloc ?_ _)); refine blk_far ?_ NB248_255.out _; (with_reducible repeat (first | refine blk_drewN ?_ _ | refine blk_drew ?_ | refine blk_alloc ?_ _)); refine blk_far ?_ NB248_255.out _; (with_reducible repeat (first | refine blk_drewN ?_ _ | refine blk_drew ?_ | refine blk_alloc ?_ _)); refine blk_far ?_ NB248_255.out _; (with_reducible repeat (first | refine blk_drewN ?_ _ | refine blk_drew ?_ | refine blk_alloc ?_ _)); refine blk_far ?_ NB248_255.out _; exact bk_ BK248⟩, ⟨by (with_reducible repeat (first | refine blk_drewN ?_ _ | refine blk_drew ?_ | refine blk_alloc ?_ _)); refine blk_put (cs := #[.string t249, .int .i64 (wrap64 (1 + t252)), .string (⟨#[]⟩ : ByteArray), .bool false]) ?_ 3 _ rfl; (with_reducible repeat (first | refine blk_drewN ?_ _ | refine blk_drew ?_ | refine blk_alloc ?_ _)); refine blk_put (cs := #[.string t249, .int .i64 (wrap64 (1 + t252)), .string (⟨#[]⟩ : ByteArray), .bool false]) ?_ 2 _ rfl; (with_reducible repeat (first | refine blk_drewN ?_ _ | refine blk_drew ?_ | refine blk_alloc ?_ _)); refine blk_put (cs := #[.string t249, .int .i64 0, .string (⟨#[]⟩ : ByteArray), .bool false]) ?_ 1 _ rfl; (with_reducible repeat (first | refine blk_drewN ?_ _ | refine blk_drew ?_ | refine blk_alloc ?_ _)); refine blk_put (cs := #[.string (⟨#[]⟩ : ByteArray), .int .i64 0, .string (⟨#[]⟩ : ByteArray), .bool false]) ?_ 0 _ rfl; exact bk_ BK255⟩, ⟨by repeat (first | (with_reducible first | exact HI0.out | apply IsS72.alloc | apply IsS72.drewN | apply IsS72.drew | apply IsS72.set_1 | apply IsS72.set_2 | refine IsS72.far ?_ NB0_248.out _ | refine IsS72.far ?_ NB0_255.out _) | exact HI0.out)⟩, ⟨by repeat (first | (with_reducible first | exact HK.out | apply KeepBut.set_ | apply keep_drewN | apply keep_drew | apply keep_alloc | refine keep_far ?_ GW248.out _ | refine keep_far ?_ GW255.out _) | exact HK.out)⟩, ⟨by repeat (first | (with_reducible first | exact HB.out | apply below_alloc | apply pw_below_drewN | apply below_drew1 | refine below_set ?_ (IsS72.ge HI0.out) | refine below_set ?_ GE248.out | refine below_set ?_ GE255.out) | exact HB.out)⟩⟩}
  {
  rw [if_neg c20] at H
  have c20b0 : (t249.toList == ([100, 111, 99] : List UInt8)) = false := beq_eq_false_iff_ne.mpr c20
  have c20b1 : (t249.toList != ([100, 111, 99] : List UInt8)) = true := bne_iff_ne.mpr c20
  have H' := Aside0.mk H
  clear H
  have hnb24 := NB255_248.out
  have hnc24 := NB248_255.out
  have hnb25 := NB255_0.out
  have hnc25 := NB0_255.out
  obtain ⟨hcz26_0, hcz26_1, hcz26_2, hcz26_3, hfz26_0, hfz26_1, hfz26_2, hfz26_3⟩ := zc4_ BK255
  go_wp2
  go_meet
  case rel => exact ⟨_, ((t249.toList == ([100, 111, 99, 47, 97] : List UInt8))), (by first | rfl | (simp; done) | (simp [*]; done)), H', ⟨by first | omega | exact Nat.le_refl _⟩, ⟨by (with_reducible repeat (first | refine blk_drewN ?_ _ | refine blk_drew ?_ | refine blk_alloc ?_ _)); refine blk_far ?_ NB248_255.out _; (with_reducible repeat (first | refine blk_drewN ?_ _ | refine blk_drew ?_ | refine blk_alloc ?_ _)); refine blk_far ?_ NB248_255.out _; (with_reducible repeat (first | refine blk_drewN ?_ _ | refine blk_drew ?_ | refine blk_alloc ?_ _)); refine blk_far ?_ NB248_255.out _; (with_reducible repeat (first | refine blk_drewN ?_ _ | refine blk_drew ?_ | refine blk_alloc ?_ _)); refine blk_far ?_ NB248_255.out _; exact bk_ BK248⟩, ⟨by (with_reducible repeat (first | refine blk_drewN ?_ _ | refine blk_drew ?_ | refine blk_alloc ?_ _)); refine blk_put (cs := #[.string t249, .int .i64 (wrap64 (1 + t252)), .string (⟨#[]⟩ : ByteArray), .bool false]) ?_ 3 _ rfl; (with_reducible repeat (first | refine blk_drewN ?_ _ | refine blk_drew ?_ | refine blk_alloc ?_ _)); refine blk_put (cs := #[.string t249, .int .i64 (wrap64 (1 + t252)), .string (⟨#[]⟩ : ByteArray), .bool false]) ?_ 2 _ rfl; (with_reducible repeat (first | refine blk_drewN ?_ _ | refine blk_drew ?_ | refine blk_alloc ?_ _)); refine blk_put (cs := #[.string t249, .int .i64 0, .string (⟨#[]⟩ : ByteArray), .bool false]) ?_ 1 _ rfl; (with_reducible repeat (first | refine blk_drewN ?_ _ | refine blk_drew ?_ | refine blk_alloc ?_ _)); refine blk_put (cs := #[.string (⟨#[]⟩ : ByteArray), .int .i64 0, .string (⟨#[]⟩ : ByteArray), .bool false]) ?_ 0 _ rfl; exact bk_ BK255⟩, ⟨by repeat (first | (with_reducible first | exact HI0.out | apply IsS72.alloc | apply IsS72.drewN | apply IsS72.drew | apply IsS72.set_1 | apply IsS72.set_2 | refine IsS72.far ?_ NB0_248.out _ | refine IsS72.far ?_ NB0_255.out _) | exact HI0.out)⟩, ⟨by repeat (first | (with_reducible first | exact HK.out | apply KeepBut.set_ | apply keep_drewN | apply keep_drew | apply keep_alloc | refine keep_far ?_ GW248.out _ | refine keep_far ?_ GW255.out _) | exact HK.out)⟩, ⟨by repeat (first | (with_reducible first | exact HB.out | apply below_alloc | apply pw_below_drewN | apply below_drew1 | refine below_set ?_ (IsS72.ge HI0.out) | refine below_set ?_ GE248.out | refine below_set ?_ GE255.out) | exact HB.out)⟩⟩}}}
 case rest =>
  clear HC4
  try clear c1
  try clear c2
  try clear p2
  try clear c3
  try clear c4
  try clear p6
  try clear c9
  try clear c10
  try clear c12
  try clear c12b0
  try clear c12b1
  try clear c13
  try clear c14
  try clear c16
  try clear c16b0
  try clear c16b1
  try clear c17
  try clear c18
  try clear c20
  try clear c20b0
  try clear c20b1
  try clear c21
  try clear c22
  try clear c24
  try clear c25
  try clear c26
  try clear hcz11_0 hcz11_1 hcz11_2 hcz11_3
  try clear hcz15_0 hcz15_1 hcz15_2 hcz15_3
  try clear hcz19_0 hcz19_1 hcz19_2 hcz19_3
  try clear hcz23_0 hcz23_1 hcz23_2 hcz23_3
  try clear hcz26_0 hcz26_1 hcz26_2 hcz26_3
  try clear hfz11_0 hfz11_1 hfz11_2 hfz11_3
  try clear hfz15_0 hfz15_1 hfz15_2 hfz15_3
  try clear hfz19_0 hfz19_1 hfz19_2 hfz19_3
  try clear hfz23_0 hfz23_1 hfz23_2 hfz23_3
  try clear hfz26_0 hfz26_1 hfz26_2 hfz26_3
  obtain ⟨kq, x27_3, rfl, HA, HJ3, BK248, BK255, HI0, HK, HB⟩ := hcut
  cases kq with
  | zero => exact absurd HA.out (by simp [spec_l10DrawEntry.j0])
  | succ kj3 =>
   have H := HA.out
   clear HA
   simp only [spec_l10DrawEntry.j0] at H
   have HC27 := Aside0.mk H
   clear H
   go_upto_if 27 with (fail)
   go_cut [] (fun wc => ∃ (kq : Nat) (x256001_26 : Int), Aside0 (spec_l10DrawEntry.j1 kq s0_0 t253 t254 t249 x256001_26 (⟨#[]⟩ : ByteArray) false = some (r1, r2, r3, r4, r5, r6)) ∧ Aside0 (kq ≤ kj3) ∧ Aside0 (wc.heap[gb248]? = some (.cells #[.string (⟨#[]⟩ : ByteArray), .int .i64 0, .string (⟨#[]⟩ : ByteArray), .bool false] 29 (0, 0))) ∧ Aside0 (wc.heap[gb255]? = some (.cells #[.string t249, .int .i64 x256001_26, .string (⟨#[]⟩ : ByteArray), .bool false] 29 (0, 0))) ∧ Aside0 (IsS72 w0 wc g s0_0 t253 t254) ∧ Aside0 (KeepBut w wc g none) ∧ Aside0 (Below w0.heap.size w0 wc))
   case first =>
    have H := HC27.out
    clear HC27
    by_cases c28 : x27_3 = true
    {
    subst c28
    rw [if_pos rfl] at H
    have H' := Aside0.mk H
    clear H
    have hnb29 := NB255_248.out
    have hnc29 := NB248_255.out
    have hnb30 := NB255_0.out
    have hnc30 := NB0_255.out
    obtain ⟨hcz31_0, hcz31_1, hcz31_2, hcz31_3, hfz31_0, hfz31_1, hfz31_2, hfz31_3⟩ := zc4_ BK255
    go_wp2
    go_meet
    case rel => exact ⟨_, (1), H', ⟨by have := HJ3.out; first | omega | exact Nat.le_refl _⟩, ⟨by (with_reducible repeat (first | refine blk_drewN ?_ _ | refine blk_drew ?_ | refine blk_alloc ?_ _)); refine blk_far ?_ NB248_255.out _; exact bk_ BK248⟩, ⟨by (with_reducible repeat (first | refine blk_drewN ?_ _ | refine blk_drew ?_ | refine blk_alloc ?_ _)); refine blk_put (cs := #[.string t249, .int .i64 (wrap64 (1 + t252)), .string (⟨#[]⟩ : ByteArray), .bool false]) ?_ 1 _ rfl; exact bk_ BK255⟩, ⟨by repeat (first | (with_reducible first | exact HI0.out | apply IsS72.alloc | apply IsS72.drewN | apply IsS72.drew | apply IsS72.set_1 | apply IsS72.set_2 | refine IsS72.far ?_ NB0_248.out _ | refine IsS72.far ?_ NB0_255.out _) | exact HI0.out)⟩, ⟨by repeat (first | (with_reducible first | exact HK.out | apply KeepBut.set_ | apply keep_drewN | apply keep_drew | apply keep_alloc | refine keep_far ?_ GW248.out _ | refine keep_far ?_ GW255.out _) | exact HK.out)⟩, ⟨by repeat (first | (with_reducible first | exact HB.out | apply below_alloc | apply pw_below_drewN | apply below_drew1 | refine below_set ?_ (IsS72.ge HI0.out) | refine below_set ?_ GE248.out | refine below_set ?_ GE255.out) | exact HB.out)⟩⟩}
    {
    replace c28 := Bool.eq_false_iff.mpr c28
    subst c28
    rw [if_neg (show ¬ (false = true) by decide)] at H
    have H' := Aside0.mk H
    clear H
    go_wp2
    go_meet
    case rel => exact ⟨_, ((wrap64 (1 + t252))), H', ⟨by have := HJ3.out; first | omega | exact Nat.le_refl _⟩, ⟨bk_ BK248⟩, ⟨bk_ BK255⟩, ⟨by repeat (first | (with_reducible first | exact HI0.out | apply IsS72.alloc | apply IsS72.drewN | apply IsS72.drew | apply IsS72.set_1 | apply IsS72.set_2 | refine IsS72.far ?_ NB0_248.out _ | refine IsS72.far ?_ NB0_255.out _) | exact HI0.out)⟩, ⟨by repeat (first | (with_reducible first | exact HK.out | apply KeepBut.set_ | apply keep_drewN | apply keep_drew | apply keep_alloc | refine keep_far ?_ GW248.out _ | refine keep_far ?_ GW255.out _) | exact HK.out)⟩, ⟨by repeat (first | (with_reducible first | exact HB.out | apply below_alloc | apply pw_below_drewN | apply below_drew1 | refine below_set ?_ (IsS72.ge HI0.out) | refine below_set ?_ GE248.out | refine below_set ?_ GE255.out) | exact HB.out)⟩⟩}
   case rest =>
    clear HC27
    try clear c1
    try clear c2
    try clear p2
    try clear c3
    try clear c4
    try clear p6
    try clear c9
    try clear c10
    try clear c12
    try clear c12b0
    try clear c12b1
    try clear c13
    try clear c14
    try clear c16
    try clear c16b0
    try clear c16b1
    try clear c17
    try clear c18
    try clear c20
    try clear c20b0
    try clear c20b1
    try clear c21
    try clear c22
    try clear c24
    try clear c25
    try clear c26
    try clear c28
    try clear c29
    try clear c30
    try clear hcz11_0 hcz11_1 hcz11_2 hcz11_3
    try clear hcz15_0 hcz15_1 hcz15_2 hcz15_3
    try clear hcz19_0 hcz19_1 hcz19_2 hcz19_3
    try clear hcz23_0 hcz23_1 hcz23_2 hcz23_3
    try clear hcz26_0 hcz26_1 hcz26_2 hcz26_3
    try clear hcz31_0 hcz31_1 hcz31_2 hcz31_3
    try clear hfz11_0 hfz11_1 hfz11_2 hfz11_3
    try clear hfz15_0 hfz15_1 hfz15_2 hfz15_3
    try clear hfz19_0 hfz19_1 hfz19_2 hfz19_3
    try clear hfz23_0 hfz23_1 hfz23_2 hfz23_3
    try clear hfz26_0 hfz26_1 hfz26_2 hfz26_3
    try clear hfz31_0 hfz31_1 hfz31_2 hfz31_3
    try clear p2
    try clear p6
    obtain ⟨kq, x256001_26, HA, HJ26, BK248, BK255, HI0, HK, HB⟩ := hcut
    cases kq with
    | zero => exact absurd HA.out (by simp [spec_l10DrawEntry.j1])
    | succ kj26 =>
     have H := HA.out
     clear HA
     simp only [spec_l10DrawEntry.j1] at H
     have HC32 := Aside0.mk H
     clear H
     have hnb33 := NB255_248.out
     have hnc33 := NB248_255.out
     have hnb34 := NB255_0.out
     have hnc34 := NB0_255.out
     obtain ⟨hcz35_0, hcz35_1, hcz35_2, hcz35_3, hfz35_0, hfz35_1, hfz35_2, hfz35_3⟩ := zc4_ BK255
     go_upto_if 31 with (fail)
     go_cut [] (fun wc => ∃ (kq : Nat) (x1001_31 : Int) (x1002_31 : Int) (x256002_31 : ByteArray) (x256003_31 : Bool), Aside0 (spec_l10DrawEntry.j2 kq s0_0 x1001_31 x1002_31 t249 x256001_26 x256002_31 x256003_31 = some (r1, r2, r3, r4, r5, r6)) ∧ Aside0 (kq ≤ kj26) ∧ Aside0 (wc.heap[gb248]? = some (.cells #[.string (⟨#[]⟩ : ByteArray), .int .i64 0, .string (⟨#[]⟩ : ByteArray), .bool false] 29 (0, 0))) ∧ Aside0 (wc.heap[gb255]? = some (.cells #[.string t249, .int .i64 x256001_26, .string x256002_31, .bool x256003_31] 29 (0, 0))) ∧ Aside0 (IsS72 w0 wc g s0_0 x1001_31 x1002_31) ∧ Aside0 (KeepBut w wc g none) ∧ Aside0 (Below w0.heap.size w0 wc))
     case first =>
      have H := HC32.out
      clear HC32
      by_cases c36 : x256001_26 = 1
      {
      rw [if_pos c36] at H
      have c36b0 : (x256001_26 == 1) = true := beq_iff_eq.mpr c36
      have c36b1 : (x256001_26 != 1) = false := bne_eq_false_iff_eq.mpr c36
      clear c36
      (first | rw [c36b0] | (simp only [i64_w, i32_w]; rw [c36b0]) | skip)
      have H' := Aside0.mk H
      clear H
      go_wp2
      go_meet
      case rel => exact ⟨_, (t253), (t254), ((⟨#[]⟩ : ByteArray)), (false), H', ⟨by have := HJ3.out; have := HJ26.out; first | omega | exact Nat.le_refl _⟩, ⟨bk_ BK248⟩, ⟨bk_ BK255⟩, ⟨by repeat (first | (with_reducible first | exact HI0.out | apply IsS72.alloc | apply IsS72.drewN | apply IsS72.drew | apply IsS72.set_1 | apply IsS72.set_2 | refine IsS72.far ?_ NB0_248.out _ | refine IsS72.far ?_ NB0_255.out _) | exact HI0.out)⟩, ⟨by repeat (first | (with_reducible first | exact HK.out | apply KeepBut.set_ | apply keep_drewN | apply keep_drew | apply keep_alloc | refine keep_far ?_ GW248.out _ | refine keep_far ?_ GW255.out _) | exact HK.out)⟩, ⟨by repeat (first | (with_reducible first | exact HB.out | apply below_alloc | apply pw_below_drewN | apply below_drew1 | refine below_set ?_ (IsS72.ge HI0.out) | refine below_set ?_ GE248.out | refine below_set ?_ GE255.out) | exact HB.out)⟩⟩}
      {
      rw [if_neg c36] at H
      have c36b0 : (x256001_26 == 1) = false := beq_eq_false_iff_ne.mpr c36
      have c36b1 : (x256001_26 != 1) = true := bne_iff_ne.mpr c36
      (first | rw [c36b0] | (simp only [i64_w, i32_w]; rw [c36b0]) | skip)
      replace H := Option.bind_eq_some_iff.mp H
      obtain ⟨⟨t256, t257, t258⟩, A370, H⟩ := H
      have A37 := Aside0.mk A370
      clear A370
      by_cases c38 : t256.size + 1 ≤ 9223372036854775807
      {
      rw [if_pos c38] at H
      have c38b0 := eq_true c38
      have c38b1 := decide_eq_true c38
      try have c38b2 : (9223372036854775807 < t256.size + 1) = False := eq_false (Nat.not_lt.2 c38)
      by_cases c39 : x256001_26 = 2
      {
      rw [if_pos c39] at H
      have c39b0 : (x256001_26 == 2) = true := beq_iff_eq.mpr c39
      have c39b1 : (x256001_26 != 2) = false := bne_eq_false_iff_eq.mpr c39
      clear c39
      replace H := Option.bind_eq_some_iff.mp H
      obtain ⟨⟨t259, t260, t261⟩, A400, H⟩ := H
      have A40 := Aside0.mk A400
      clear A400
      have H' := Aside0.mk H
      clear H
      go_wp2_with (first | ((with_reducible refine gate_callee (f := 50) rfl ?_); refine gL_ (some 33) Tryd.func50 #[.pointer (some ⟨g, 0, none⟩)] ?_; (with_reducible refine (spec_l10DrawData.calls kj26 g s0_0 t253 t254 t256 t257 t258 w0 _ ?side1 ?side2 A37.out).mono ?_); (case side1 => repeat (first | (with_reducible first | exact HI0.out | apply IsS72.alloc | apply IsS72.drewN | apply IsS72.drew | apply IsS72.set_1 | apply IsS72.set_2 | refine IsS72.far ?_ NB0_248.out _ | refine IsS72.far ?_ NB0_255.out _) | exact HI0.out)); (case side2 => repeat (first | (with_reducible first | exact HB.out | apply below_alloc | apply pw_below_drewN | apply below_drew1 | refine below_set ?_ (IsS72.ge HI0.out) | refine below_set ?_ GE248.out | refine below_set ?_ GE255.out) | exact HB.out)); rintro e w41 ⟨rfl, hi, hb, hk⟩; refine ⟨_, rfl, ?_⟩; replace BK248 := Aside0.mk (KeepBut.blk hk (g' := gb248) (o := .cells #[.string (⟨#[]⟩ : ByteArray), .int .i64 0, .string (⟨#[]⟩ : ByteArray), .bool false] 29 (0, 0)) (bk_ BK248) NB248_0.out (by simp)); replace BK255 := Aside0.mk (KeepBut.blk hk (g' := gb255) (o := .cells #[.string t249, .int .i64 x256001_26, .string (⟨#[]⟩ : ByteArray), .bool false] 29 (0, 0)) (bk_ BK255) NB255_0.out (by simp)); replace HK := Aside0.mk (KeepBut.trans (by repeat (first | (with_reducible first | exact HK.out | apply KeepBut.set_ | apply keep_drewN | apply keep_drew | apply keep_alloc | refine keep_far ?_ GW248.out _ | refine keep_far ?_ GW255.out _) | exact HK.out)) hk (.inl rfl)); replace HB := Aside0.mk (hb); replace HI0 := Aside0.mk (hi); clear hb hk hi; have hnb42 := NB255_248.out; have hnc42 := NB248_255.out; have hnb43 := NB255_0.out; have hnc43 := NB0_255.out; obtain ⟨hcz44_0, hcz44_1, hcz44_2, hcz44_3, hfz44_0, hfz44_1, hfz44_2, hfz44_3⟩ := zc4_ BK255) | (go_at_call 47; (with_reducible refine (spec_l1Once.calls g s0_0 t257 t258 3 t259 t260 t261 w0 _ ?side1 ?side2 A40.out).mono ?_); (case side1 => repeat (first | (with_reducible first | exact HI0.out | apply IsS72.alloc | apply IsS72.drewN | apply IsS72.drew | apply IsS72.set_1 | apply IsS72.set_2 | refine IsS72.far ?_ NB0_248.out _ | refine IsS72.far ?_ NB0_255.out _) | exact HI0.out)); (case side2 => repeat (first | (with_reducible first | exact HB.out | apply below_alloc | apply pw_below_drewN | apply below_drew1 | refine below_set ?_ (IsS72.ge HI0.out) | refine below_set ?_ GE248.out | refine below_set ?_ GE255.out) | exact HB.out)); rintro e w45 ⟨rfl, hi, hb, hk⟩; replace BK248 := Aside0.mk (KeepBut.blk hk (g' := gb248) (o := .cells #[.string (⟨#[]⟩ : ByteArray), .int .i64 0, .string (⟨#[]⟩ : ByteArray), .bool false] 29 (0, 0)) (by (with_reducible repeat (first | refine blk_drewN ?_ _ | refine blk_drew ?_ | refine blk_alloc ?_ _)); refine blk_far ?_ NB248_255.out _; exact bk_ BK248) NB248_0.out (by simp)); replace BK255 := Aside0.mk (KeepBut.blk hk (g' := gb255) (o := .cells #[.string t249, .int .i64 x256001_26, .string (t256 ++ (⟨#[100]⟩ : ByteArray)), .bool false] 29 (0, 0)) (by (with_reducible repeat (first | refine blk_drewN ?_ _ | refine blk_drew ?_ | refine blk_alloc ?_ _)); refine blk_put (cs := #[.string t249, .int .i64 x256001_26, .string (⟨#[]⟩ : ByteArray), .bool false]) ?_ 2 _ rfl; exact bk_ BK255) NB255_0.out (by simp)); replace HK := Aside0.mk (KeepBut.trans (by repeat (first | (with_reducible first | exact HK.out | apply KeepBut.set_ | apply keep_drewN | apply keep_drew | apply keep_alloc | refine keep_far ?_ GW248.out _ | refine keep_far ?_ GW255.out _) | exact HK.out)) hk (.inl rfl)); replace HB := Aside0.mk (hb); replace HI0 := Aside0.mk (hi); clear hb hk hi; obtain ⟨hcz46_0, hcz46_1, hcz46_2, hcz46_3, hfz46_0, hfz46_1, hfz46_2, hfz46_3⟩ := zc4_ BK255))
      go_meet
      case rel => exact ⟨_, (t260), (t261), (t256 ++ (⟨#[100]⟩ : ByteArray)), (t259), H', ⟨by have := HJ3.out; have := HJ26.out; first | omega | exact Nat.le_refl _⟩, ⟨by (with_reducible repeat (first | refine blk_drewN ?_ _ | refine blk_drew ?_ | refine blk_alloc ?_ _)); refine blk_far ?_ NB248_255.out _; exact bk_ BK248⟩, ⟨by (with_reducible repeat (first | refine blk_drewN ?_ _ | refine blk_drew ?_ | refine blk_alloc ?_ _)); refine blk_put (cs := #[.string t249, .int .i64 x256001_26, .string (t256 ++ (⟨#[100]⟩ : ByteArray)), .bool false]) ?_ 3 _ rfl; exact bk_ BK255⟩, ⟨by repeat (first | (with_reducible first | exact HI0.out | apply IsS72.alloc | apply IsS72.drewN | apply IsS72.drew | apply IsS72.set_1 | apply IsS72.set_2 | refine IsS72.far ?_ NB0_248.out _ | refine IsS72.far ?_ NB0_255.out _) | exact HI0.out)⟩, ⟨by repeat (first | (with_reducible first | exact HK.out | apply KeepBut.set_ | apply keep_drewN | apply keep_drew | apply keep_alloc | refine keep_far ?_ GW248.out _ | refine keep_far ?_ GW255.out _) | exact HK.out)⟩, ⟨by repeat (first | (with_reducible first | exact HB.out | apply below_alloc | apply pw_below_drewN | apply below_drew1 | refine below_set ?_ (IsS72.ge HI0.out) | refine below_set ?_ GE248.out | refine below_set ?_ GE255.out) | exact HB.out)⟩⟩}
      {
      rw [if_neg c39] at H
      have c39b0 : (x256001_26 == 2) = false := beq_eq_false_iff_ne.mpr c39
      have c39b1 : (x256001_26 != 2) = true := bne_iff_ne.mpr c39
      have H' := Aside0.mk H
      clear H
      go_wp2_with (first | ((with_reducible refine gate_callee (f := 50) rfl ?_); refine gL_ (some 33) Tryd.func50 #[.pointer (some ⟨g, 0, none⟩)] ?_; (with_reducible refine (spec_l10DrawData.calls kj26 g s0_0 t253 t254 t256 t257 t258 w0 _ ?side1 ?side2 A37.out).mono ?_); (case side1 => repeat (first | (with_reducible first | exact HI0.out | apply IsS72.alloc | apply IsS72.drewN | apply IsS72.drew | apply IsS72.set_1 | apply IsS72.set_2 | refine IsS72.far ?_ NB0_248.out _ | refine IsS72.far ?_ NB0_255.out _) | exact HI0.out)); (case side2 => repeat (first | (with_reducible first | exact HB.out | apply below_alloc | apply pw_below_drewN | apply below_drew1 | refine below_set ?_ (IsS72.ge HI0.out) | refine below_set ?_ GE248.out | refine below_set ?_ GE255.out) | exact HB.out)); rintro e w47 ⟨rfl, hi, hb, hk⟩; refine ⟨_, rfl, ?_⟩; replace BK248 := Aside0.mk (KeepBut.blk hk (g' := gb248) (o := .cells #[.string (⟨#[]⟩ : ByteArray), .int .i64 0, .string (⟨#[]⟩ : ByteArray), .bool false] 29 (0, 0)) (bk_ BK248) NB248_0.out (by simp)); replace BK255 := Aside0.mk (KeepBut.blk hk (g' := gb255) (o := .cells #[.string t249, .int .i64 x256001_26, .string (⟨#[]⟩ : ByteArray), .bool false] 29 (0, 0)) (bk_ BK255) NB255_0.out (by simp)); replace HK := Aside0.mk (KeepBut.trans (by repeat (first | (with_reducible first | exact HK.out | apply KeepBut.set_ | apply keep_drewN | apply keep_drew | apply keep_alloc | refine keep_far ?_ GW248.out _ | refine keep_far ?_ GW255.out _) | exact HK.out)) hk (.inl rfl)); replace HB := Aside0.mk (hb); replace HI0 := Aside0.mk (hi); clear hb hk hi; have hnb48 := NB255_248.out; have hnc48 := NB248_255.out; have hnb49 := NB255_0.out; have hnc49 := NB0_255.out; obtain ⟨hcz50_0, hcz50_1, hcz50_2, hcz50_3, hfz50_0, hfz50_1, hfz50_2, hfz50_3⟩ := zc4_ BK255))
      go_meet
      case rel => exact ⟨_, (t257), (t258), (t256 ++ (⟨#[100]⟩ : ByteArray)), (false), H', ⟨by have := HJ3.out; have := HJ26.out; first | omega | exact Nat.le_refl _⟩, ⟨by (with_reducible repeat (first | refine blk_drewN ?_ _ | refine blk_drew ?_ | refine blk_alloc ?_ _)); refine blk_far ?_ NB248_255.out _; (with_reducible repeat (first | refine blk_drewN ?_ _ | refine blk_drew ?_ | refine blk_alloc ?_ _)); refine blk_far ?_ NB248_255.out _; exact bk_ BK248⟩, ⟨by (with_reducible repeat (first | refine blk_drewN ?_ _ | refine blk_drew ?_ | refine blk_alloc ?_ _)); refine blk_put (cs := #[.string t249, .int .i64 x256001_26, .string (t256 ++ (⟨#[100]⟩ : ByteArray)), .bool false]) ?_ 3 _ rfl; (with_reducible repeat (first | refine blk_drewN ?_ _ | refine blk_drew ?_ | refine blk_alloc ?_ _)); refine blk_put (cs := #[.string t249, .int .i64 x256001_26, .string (⟨#[]⟩ : ByteArray), .bool false]) ?_ 2 _ rfl; exact bk_ BK255⟩, ⟨by repeat (first | (with_reducible first | exact HI0.out | apply IsS72.alloc | apply IsS72.drewN | apply IsS72.drew | apply IsS72.set_1 | apply IsS72.set_2 | refine IsS72.far ?_ NB0_248.out _ | refine IsS72.far ?_ NB0_255.out _) | exact HI0.out)⟩, ⟨by repeat (first | (with_reducible first | exact HK.out | apply KeepBut.set_ | apply keep_drewN | apply keep_drew | apply keep_alloc | refine keep_far ?_ GW248.out _ | refine keep_far ?_ GW255.out _) | exact HK.out)⟩, ⟨by repeat (first | (with_reducible first | exact HB.out | apply below_alloc | apply pw_below_drewN | apply below_drew1 | refine below_set ?_ (IsS72.ge HI0.out) | refine below_set ?_ GE248.out | refine below_set ?_ GE255.out) | exact HB.out)⟩⟩}}
      {
      rw [if_neg c38] at H
      exact absurd H (by simp)}}
     case rest =>
      clear HC32
      try clear c1
      try clear c2
      try clear p2
      try clear c3
      try clear c4
      try clear c5
      try clear p6
      try clear c9
      try clear c10
      try clear c12
      try clear c12b0
      try clear c12b1
      try clear c13
      try clear c14
      try clear c16
      try clear c16b0
      try clear c16b1
      try clear c17
      try clear c18
      try clear c20
      try clear c20b0
      try clear c20b1
      try clear c21
      try clear c22
      try clear c24
      try clear c25
      try clear c26
      try clear c28
      try clear c29
      try clear c30
      try clear c32
      try clear c33
      try clear c34
      try clear c36
      try clear c36b0
      try clear c36b1
      try clear c38
      try clear c38b0
      try clear c38b1
      try clear c38b2
      try clear c39
      try clear c39b0
      try clear c39b1
      try clear c42
      try clear c43
      try clear c48
      try clear c49
      try clear c50
      try clear hcz11_0 hcz11_1 hcz11_2 hcz11_3
      try clear hcz15_0 hcz15_1 hcz15_2 hcz15_3
      try clear hcz19_0 hcz19_1 hcz19_2 hcz19_3
      try clear hcz23_0 hcz23_1 hcz23_2 hcz23_3
      try clear hcz26_0 hcz26_1 hcz26_2 hcz26_3
      try clear hcz31_0 hcz31_1 hcz31_2 hcz31_3
      try clear hcz35_0 hcz35_1 hcz35_2 hcz35_3
      try clear hcz44_0 hcz44_1 hcz44_2 hcz44_3
      try clear hcz46_0 hcz46_1 hcz46_2 hcz46_3
      try clear hcz50_0 hcz50_1 hcz50_2 hcz50_3
      try clear hfz11_0 hfz11_1 hfz11_2 hfz11_3
      try clear hfz15_0 hfz15_1 hfz15_2 hfz15_3
      try clear hfz19_0 hfz19_1 hfz19_2 hfz19_3
      try clear hfz23_0 hfz23_1 hfz23_2 hfz23_3
      try clear hfz26_0 hfz26_1 hfz26_2 hfz26_3
      try clear hfz31_0 hfz31_1 hfz31_2 hfz31_3
      try clear hfz35_0 hfz35_1 hfz35_2 hfz35_3
      try clear hfz44_0 hfz44_1 hfz44_2 hfz44_3
      try clear hfz46_0 hfz46_1 hfz46_2 hfz46_3
      try clear hfz50_0 hfz50_1 hfz50_2 hfz50_3
      try clear p2
      try clear p6
      obtain ⟨kq, x1001_31, x1002_31, x256002_31, x256003_31, HA, HJ31, BK248, BK255, HI0, HK, HB⟩ := hcut
      cases kq with
      | zero => exact absurd HA.out (by simp [spec_l10DrawEntry.j2])
      | succ kj31 =>
       have H := HA.out
       clear HA
       simp only [spec_l10DrawEntry.j2] at H
       replace H := Option.bind_eq_some_iff.mp H
       obtain ⟨⟨t262, t263, t264⟩, A510, H⟩ := H
       have A51 := Aside0.mk A510
       clear A510
       by_cases c52 : t262 = true
       {
       subst c52
       rw [if_pos rfl] at H
       replace H := Option.bind_eq_some_iff.mp H
       obtain ⟨⟨t265, t266, t267⟩, A530, H⟩ := H
       have A53 := Aside0.mk A530
       clear A530
       by_cases c54 : t265 = 0
       {
       rw [if_pos c54] at H
       have c54b0 : (t265 == 0) = true := beq_iff_eq.mpr c54
       have c54b1 : (t265 != 0) = false := bne_eq_false_iff_eq.mpr c54
       clear c54
       obtain ⟨y268, hy268⟩ : ∃ y_ : List ByteArray, y_ = (([(⟨#[]⟩ : ByteArray), (⟨#[47, 97]⟩ : ByteArray), (⟨#[97, 47]⟩ : ByteArray), (⟨#[97, 47, 47, 98]⟩ : ByteArray), (⟨#[46, 120]⟩ : ByteArray), (⟨#[97, 47, 98, 47, 99, 47, 100, 47, 101, 47, 102, 47, 103, 47, 104, 47, 105]⟩ : ByteArray)] : List ByteArray)) := ⟨_, rfl⟩
       replace H : ((spec_l1Below.f s0_0 t266 t267 6).bind fun bt271 => (if 0 ≤ bt271.1 then (if bt271.1 < (y268.length : Int) then (some (rdOf ByteArray.empty y268 bt271.1, x256001_26, x256002_31, x256003_31, bt271.2.1, bt271.2.2)) else (none)) else (none))) = some (r1, r2, r3, r4, r5, r6) := rH_ hy268 H
       have Ny268 := Aside0.mk hy268
       clear hy268
       replace H := Option.bind_eq_some_iff.mp H
       obtain ⟨⟨t271, t272, t273⟩, A550, H⟩ := H
       have A55 := Aside0.mk A550
       clear A550
       by_cases c56 : 0 ≤ t271
       {
       rw [if_pos c56] at H
       have c56b0 := decide_eq_true c56
       clear c56
       by_cases c57 : t271 < (y268.length : Int)
       {
       rw [if_pos c57] at H
       have c57b0 := decide_eq_true c57
       clear c57
       simp only [Option.some.injEq, Prod.mk.injEq] at H
       obtain ⟨rfl, rfl, rfl, rfl, rfl, rfl⟩ := H
       go_wp2_with (first | ((with_reducible refine gate_callee (f := 47) rfl ?_); refine gL_ (some 45) Tryd.func47 #[.pointer (some ⟨g, 0, none⟩), .int .i64 30] ?_; (with_reducible refine (spec_l1Once.calls g s0_0 x1001_31 x1002_31 30 true t263 t264 w0 _ ?side1 ?side2 A51.out).mono ?_); (case side1 => repeat (first | (with_reducible first | exact HI0.out | apply IsS72.alloc | apply IsS72.drewN | apply IsS72.drew | apply IsS72.set_1 | apply IsS72.set_2 | refine IsS72.far ?_ NB0_248.out _ | refine IsS72.far ?_ NB0_255.out _) | exact HI0.out)); (case side2 => repeat (first | (with_reducible first | exact HB.out | apply below_alloc | apply pw_below_drewN | apply below_drew1 | refine below_set ?_ (IsS72.ge HI0.out) | refine below_set ?_ GE248.out | refine below_set ?_ GE255.out) | exact HB.out)); rintro e w58 ⟨rfl, hi, hb, hk⟩; refine ⟨_, rfl, ?_⟩; replace BK248 := Aside0.mk (KeepBut.blk hk (g' := gb248) (o := .cells #[.string (⟨#[]⟩ : ByteArray), .int .i64 0, .string (⟨#[]⟩ : ByteArray), .bool false] 29 (0, 0)) (bk_ BK248) NB248_0.out (by simp)); replace BK255 := Aside0.mk (KeepBut.blk hk (g' := gb255) (o := .cells #[.string t249, .int .i64 x256001_26, .string x256002_31, .bool x256003_31] 29 (0, 0)) (bk_ BK255) NB255_0.out (by simp)); replace HK := Aside0.mk (KeepBut.trans (by repeat (first | (with_reducible first | exact HK.out | apply KeepBut.set_ | apply keep_drewN | apply keep_drew | apply keep_alloc | refine keep_far ?_ GW248.out _ | refine keep_far ?_ GW255.out _) | exact HK.out)) hk (.inl rfl)); replace HB := Aside0.mk (hb); replace HI0 := Aside0.mk (hi); clear hb hk hi) | ((with_reducible refine gate_callee (f := 32) rfl ?_); refine gL_ (some 47) Tryd.func32 #[.pointer (some ⟨g, 0, none⟩), .int .i64 5] ?_; (with_reducible refine (spec_l1Below.calls g s0_0 t263 t264 5 t265 t266 t267 w0 _ ?side1 ?side2 A53.out).mono ?_); (case side1 => repeat (first | (with_reducible first | exact HI0.out | apply IsS72.alloc | apply IsS72.drewN | apply IsS72.drew | apply IsS72.set_1 | apply IsS72.set_2 | refine IsS72.far ?_ NB0_248.out _ | refine IsS72.far ?_ NB0_255.out _) | exact HI0.out)); (case side2 => repeat (first | (with_reducible first | exact HB.out | apply below_alloc | apply pw_below_drewN | apply below_drew1 | refine below_set ?_ (IsS72.ge HI0.out) | refine below_set ?_ GE248.out | refine below_set ?_ GE255.out) | exact HB.out)); rintro e w59 ⟨rfl, hi, hb, hk⟩; refine ⟨_, rfl, ?_⟩; replace BK248 := Aside0.mk (KeepBut.blk hk (g' := gb248) (o := .cells #[.string (⟨#[]⟩ : ByteArray), .int .i64 0, .string (⟨#[]⟩ : ByteArray), .bool false] 29 (0, 0)) (bk_ BK248) NB248_0.out (by simp)); replace BK255 := Aside0.mk (KeepBut.blk hk (g' := gb255) (o := .cells #[.string t249, .int .i64 x256001_26, .string x256002_31, .bool x256003_31] 29 (0, 0)) (bk_ BK255) NB255_0.out (by simp)); replace HK := Aside0.mk (KeepBut.trans (by repeat (first | (with_reducible first | exact HK.out | apply KeepBut.set_ | apply keep_drewN | apply keep_drew | apply keep_alloc | refine keep_far ?_ GW248.out _ | refine keep_far ?_ GW255.out _) | exact HK.out)) hk (.inl rfl)); replace HB := Aside0.mk (hb); replace HI0 := Aside0.mk (hi); clear hb hk hi) | ((with_reducible refine gate_dst (N := 50) rfl ?_); refine Kd.R_lit Kd.string _ 9 ?hg (N := 50) ?hd (xs := ([(⟨#[]⟩ : ByteArray), (⟨#[47, 97]⟩ : ByteArray), (⟨#[97, 47]⟩ : ByteArray), (⟨#[97, 47, 47, 98]⟩ : ByteArray), (⟨#[46, 120]⟩ : ByteArray), (⟨#[97, 47, 98, 47, 99, 47, 100, 47, 101, 47, 102, 47, 103, 47, 104, 47, 105]⟩ : ByteArray)] : List ByteArray)) (inner := [.string (⟨#[]⟩ : ByteArray), .string (⟨#[47, 97]⟩ : ByteArray), .string (⟨#[97, 47]⟩ : ByteArray), .string (⟨#[97, 47, 47, 98]⟩ : ByteArray), .string (⟨#[46, 120]⟩ : ByteArray), .string (⟨#[97, 47, 98, 47, 99, 47, 100, 47, 101, 47, 102, 47, 103, 47, 104, 47, 105]⟩ : ByteArray)]) (ok := fun _ => True) (okp := fun _ => True) ?hr ?hp (fun _ hk => hk) trivial (Below.refl _ _) (Nat.le_refl _) (by simp) ?_; (case hd => rfl); (case hg => rfl); (case hr => first | (go_simp; done) | (go_simp; rfl)); (case hp => exact (Reps.one (show Kd.M Kd.string _ _ _ (⟨#[]⟩ : ByteArray) [.string (⟨#[]⟩ : ByteArray)] from rfl) (Reps.one (show Kd.M Kd.string _ _ _ (⟨#[47, 97]⟩ : ByteArray) [.string (⟨#[47, 97]⟩ : ByteArray)] from rfl) (Reps.one (show Kd.M Kd.string _ _ _ (⟨#[97, 47]⟩ : ByteArray) [.string (⟨#[97, 47]⟩ : ByteArray)] from rfl) (Reps.one (show Kd.M Kd.string _ _ _ (⟨#[97, 47, 47, 98]⟩ : ByteArray) [.string (⟨#[97, 47, 47, 98]⟩ : ByteArray)] from rfl) (Reps.one (show Kd.M Kd.string _ _ _ (⟨#[46, 120]⟩ : ByteArray) [.string (⟨#[46, 120]⟩ : ByteArray)] from rfl) (Reps.one (show Kd.M Kd.string _ _ _ (⟨#[97, 47, 98, 47, 99, 47, 100, 47, 101, 47, 102, 47, 103, 47, 104, 47, 105]⟩ : ByteArray) [.string (⟨#[97, 47, 98, 47, 99, 47, 100, 47, 101, 47, 102, 47, 103, 47, 104, 47, 105]⟩ : ByteArray)] from rfl) (Reps.none _ _)))))))); intro v269 w60 ho61 hb hg_ hnew_; clear hg_ hnew_; (first | rw [← Ny268.out] at ho61 | (simp only [Int.reduceToNat] at ho61; rw [← Ny268.out] at ho61)); have HO270 := Aside0.mk (Kd.R_lower ho61 (keep_size (w := w) (g := g) (row := none) (by repeat (first | (with_reducible first | exact HK.out | apply KeepBut.set_ | apply keep_drewN | apply keep_drew | apply keep_alloc | refine keep_far ?_ GW248.out _ | refine keep_far ?_ GW255.out _) | exact HK.out)))); replace BK248 := Aside0.mk (blk_below (bk_ BK248) hb); replace BK255 := Aside0.mk (blk_below (bk_ BK255) hb); replace HK := Aside0.mk (KeepBut.trans (by repeat (first | (with_reducible first | exact HK.out | apply KeepBut.set_ | apply keep_drewN | apply keep_drew | apply keep_alloc | refine keep_far ?_ GW248.out _ | refine keep_far ?_ GW255.out _) | exact HK.out)) (KeepBut.of_below hb g none) (.inl rfl)); replace HB := Aside0.mk (below_step (by repeat (first | (with_reducible first | exact HB.out | apply below_alloc | apply pw_below_drewN | apply below_drew1 | refine below_set ?_ (IsS72.ge HI0.out) | refine below_set ?_ GE248.out | refine below_set ?_ GE255.out) | exact HB.out)) hb); replace HI0 := Aside0.mk (IsS72.below (by repeat (first | (with_reducible first | exact HI0.out | apply IsS72.alloc | apply IsS72.drewN | apply IsS72.drew | apply IsS72.set_1 | apply IsS72.set_2 | refine IsS72.far ?_ NB0_248.out _ | refine IsS72.far ?_ NB0_255.out _) | exact HI0.out)) hb); clear hb ho61) | ((with_reducible refine gate_callee (f := 32) rfl ?_); refine gL_ (some 52) Tryd.func32 #[.pointer (some ⟨g, 0, none⟩), .int .i64 6] ?_; (with_reducible refine (spec_l1Below.calls g s0_0 t266 t267 6 t271 t272 t273 w0 _ ?side1 ?side2 A55.out).mono ?_); (case side1 => repeat (first | (with_reducible first | exact HI0.out | apply IsS72.alloc | apply IsS72.drewN | apply IsS72.drew | apply IsS72.set_1 | apply IsS72.set_2 | refine IsS72.far ?_ NB0_248.out _ | refine IsS72.far ?_ NB0_255.out _) | exact HI0.out)); (case side2 => repeat (first | (with_reducible first | exact HB.out | apply below_alloc | apply pw_below_drewN | apply below_drew1 | refine below_set ?_ (IsS72.ge HI0.out) | refine below_set ?_ GE248.out | refine below_set ?_ GE255.out) | exact HB.out)); rintro e w62 ⟨rfl, hi, hb, hk⟩; refine ⟨_, rfl, ?_⟩; replace BK248 := Aside0.mk (KeepBut.blk hk (g' := gb248) (o := .cells #[.string (⟨#[]⟩ : ByteArray), .int .i64 0, .string (⟨#[]⟩ : ByteArray), .bool false] 29 (0, 0)) (bk_ BK248) NB248_0.out (by simp)); replace BK255 := Aside0.mk (KeepBut.blk hk (g' := gb255) (o := .cells #[.string t249, .int .i64 x256001_26, .string x256002_31, .bool x256003_31] 29 (0, 0)) (bk_ BK255) NB255_0.out (by simp)); replace HO270 := Aside0.mk (Kd.R_mono (Kd.R_keep (IsS72.apart (show IsS72 w0 _ g s0_0 t266 t267 from by repeat (first | (with_reducible first | exact HI0.out | apply IsS72.alloc | apply IsS72.drewN | apply IsS72.drew | apply IsS72.set_1 | apply IsS72.set_2 | refine IsS72.far ?_ NB0_248.out _ | refine IsS72.far ?_ NB0_255.out _) | exact HI0.out)) (kr_ HO270) (by decide)) hk (fun _ h => h.2)) (fun _ h => h.1)); replace HK := Aside0.mk (KeepBut.trans (by repeat (first | (with_reducible first | exact HK.out | apply KeepBut.set_ | apply keep_drewN | apply keep_drew | apply keep_alloc | refine keep_far ?_ GW248.out _ | refine keep_far ?_ GW255.out _) | exact HK.out)) hk (.inl rfl)); replace HB := Aside0.mk (hb); replace HI0 := Aside0.mk (hi); clear hb hk hi; obtain ⟨Ao63, co63, eo63⟩ := Kd.R_slice HO270.out; subst eo63; have p274 : 0 ≤ (t271 : Int) := dA_; have q274 : t271 < (y268.length : Int) := dA_; obtain ⟨ad274, e274, hx274_0⟩ := Kd.at_string (Kd.R_reads' HO270.out).2.2 t271 p274 q274; cases e274; replace p274 := eq_true p274; replace q274 := eq_true q274; have hnb64 := NB255_248.out; have hnc64 := NB248_255.out; have hnb65 := NB255_0.out; have hnc65 := NB0_255.out; obtain ⟨hcz66_0, hcz66_1, hcz66_2, hcz66_3, hfz66_0, hfz66_1, hfz66_2, hfz66_3⟩ := zc4_ BK255; have hnb67 := NB248_0.out; have hnc67 := NB0_248.out; obtain ⟨hcz68_0, hcz68_1, hcz68_2, hcz68_3, hfz68_0, hfz68_1, hfz68_2, hfz68_3⟩ := zc4_ BK248))
       refine bodyPost_ret (results_cell_row rfl _ _ gb248 29 #[.string (rdOf ByteArray.empty y268 t271), .int .i64 x256001_26, .string x256002_31, .bool x256003_31] (0, 0) _ rfl (by (with_reducible repeat (first | refine blk_drewN ?_ _ | refine blk_drew ?_ | refine blk_alloc ?_ _)); refine blk_put (cs := #[.string (rdOf ByteArray.empty y268 t271), .int .i64 x256001_26, .string x256002_31, .bool false]) ?_ 3 _ rfl; (with_reducible repeat (first | refine blk_drewN ?_ _ | refine blk_drew ?_ | refine blk_alloc ?_ _)); refine blk_put (cs := #[.string (rdOf ByteArray.empty y268 t271), .int .i64 x256001_26, .string (⟨#[]⟩ : ByteArray), .bool false]) ?_ 2 _ rfl; (with_reducible repeat (first | refine blk_drewN ?_ _ | refine blk_drew ?_ | refine blk_alloc ?_ _)); refine blk_put (cs := #[.string (rdOf ByteArray.empty y268 t271), .int .i64 0, .string (⟨#[]⟩ : ByteArray), .bool false]) ?_ 1 _ rfl; (with_reducible repeat (first | refine blk_drewN ?_ _ | refine blk_drew ?_ | refine blk_alloc ?_ _)); refine blk_put (cs := #[.string (⟨#[]⟩ : ByteArray), .int .i64 0, .string (⟨#[]⟩ : ByteArray), .bool false]) ?_ 0 _ rfl; (with_reducible repeat (first | refine blk_drewN ?_ _ | refine blk_drew ?_ | refine blk_alloc ?_ _)); refine blk_far ?_ NB248_255.out _; exact bk_ BK248) Tryd.underlying29 rfl (by kernel_rfl)) rfl ?_
       exact ⟨eR_, by repeat (first | (with_reducible first | exact HI0.out | apply IsS72.alloc | apply IsS72.drewN | apply IsS72.drew | apply IsS72.set_1 | apply IsS72.set_2 | refine IsS72.far ?_ NB0_248.out _ | refine IsS72.far ?_ NB0_255.out _) | exact HI0.out), by repeat (first | (with_reducible first | exact HB.out | apply below_alloc | apply pw_below_drewN | apply below_drew1 | refine below_set ?_ (IsS72.ge HI0.out) | refine below_set ?_ GE248.out | refine below_set ?_ GE255.out) | exact HB.out), by repeat (first | (with_reducible first | exact HK.out | apply KeepBut.set_ | apply keep_drewN | apply keep_drew | apply keep_alloc | refine keep_far ?_ GW248.out _ | refine keep_far ?_ GW255.out _) | exact HK.out)⟩}
       {
       rw [if_neg c57] at H
       exact absurd H (by simp)}}
       {
       rw [if_neg c56] at H
       exact absurd H (by simp)}}
       {
       rw [if_neg c54] at H
       have c54b0 : (t265 == 0) = false := beq_eq_false_iff_ne.mpr c54
       have c54b1 : (t265 != 0) = true := bne_iff_ne.mpr c54
       by_cases c69 : t265 = 1
       {
       rw [if_pos c69] at H
       have c69b0 : (t265 == 1) = true := beq_iff_eq.mpr c69
       have c69b1 : (t265 != 1) = false := bne_eq_false_iff_eq.mpr c69
       clear c69
       obtain ⟨y275, hy275⟩ : ∃ y_ : List Int, y_ = (([0, 4] : List Int)) := ⟨_, rfl⟩
       replace H : ((spec_l1Below.f s0_0 t266 t267 2).bind fun bt278 => (if 0 ≤ bt278.1 then (if bt278.1 < (y275.length : Int) then (some (t249, rd y275 bt278.1, x256002_31, x256003_31, bt278.2.1, bt278.2.2)) else (none)) else (none))) = some (r1, r2, r3, r4, r5, r6) := rH_ hy275 H
       have Ny275 := Aside0.mk hy275
       clear hy275
       replace H := Option.bind_eq_some_iff.mp H
       obtain ⟨⟨t278, t279, t280⟩, A700, H⟩ := H
       have A70 := Aside0.mk A700
       clear A700
       by_cases c71 : 0 ≤ t278
       {
       rw [if_pos c71] at H
       have c71b0 := decide_eq_true c71
       clear c71
       by_cases c72 : t278 < (y275.length : Int)
       {
       rw [if_pos c72] at H
       have c72b0 := decide_eq_true c72
       clear c72
       simp only [Option.some.injEq, Prod.mk.injEq] at H
       obtain ⟨rfl, rfl, rfl, rfl, rfl, rfl⟩ := H
       go_wp2_with (first | ((with_reducible refine gate_callee (f := 47) rfl ?_); refine gL_ (some 45) Tryd.func47 #[.pointer (some ⟨g, 0, none⟩), .int .i64 30] ?_; (with_reducible refine (spec_l1Once.calls g s0_0 x1001_31 x1002_31 30 true t263 t264 w0 _ ?side1 ?side2 A51.out).mono ?_); (case side1 => repeat (first | (with_reducible first | exact HI0.out | apply IsS72.alloc | apply IsS72.drewN | apply IsS72.drew | apply IsS72.set_1 | apply IsS72.set_2 | refine IsS72.far ?_ NB0_248.out _ | refine IsS72.far ?_ NB0_255.out _) | exact HI0.out)); (case side2 => repeat (first | (with_reducible first | exact HB.out | apply below_alloc | apply pw_below_drewN | apply below_drew1 | refine below_set ?_ (IsS72.ge HI0.out) | refine below_set ?_ GE248.out | refine below_set ?_ GE255.out) | exact HB.out)); rintro e w73 ⟨rfl, hi, hb, hk⟩; refine ⟨_, rfl, ?_⟩; replace BK248 := Aside0.mk (KeepBut.blk hk (g' := gb248) (o := .cells #[.string (⟨#[]⟩ : ByteArray), .int .i64 0, .string (⟨#[]⟩ : ByteArray), .bool false] 29 (0, 0)) (bk_ BK248) NB248_0.out (by simp)); replace BK255 := Aside0.mk (KeepBut.blk hk (g' := gb255) (o := .cells #[.string t249, .int .i64 x256001_26, .string x256002_31, .bool x256003_31] 29 (0, 0)) (bk_ BK255) NB255_0.out (by simp)); replace HK := Aside0.mk (KeepBut.trans (by repeat (first | (with_reducible first | exact HK.out | apply KeepBut.set_ | apply keep_drewN | apply keep_drew | apply keep_alloc | refine keep_far ?_ GW248.out _ | refine keep_far ?_ GW255.out _) | exact HK.out)) hk (.inl rfl)); replace HB := Aside0.mk (hb); replace HI0 := Aside0.mk (hi); clear hb hk hi) | ((with_reducible refine gate_callee (f := 32) rfl ?_); refine gL_ (some 47) Tryd.func32 #[.pointer (some ⟨g, 0, none⟩), .int .i64 5] ?_; (with_reducible refine (spec_l1Below.calls g s0_0 t263 t264 5 t265 t266 t267 w0 _ ?side1 ?side2 A53.out).mono ?_); (case side1 => repeat (first | (with_reducible first | exact HI0.out | apply IsS72.alloc | apply IsS72.drewN | apply IsS72.drew | apply IsS72.set_1 | apply IsS72.set_2 | refine IsS72.far ?_ NB0_248.out _ | refine IsS72.far ?_ NB0_255.out _) | exact HI0.out)); (case side2 => repeat (first | (with_reducible first | exact HB.out | apply below_alloc | apply pw_below_drewN | apply below_drew1 | refine below_set ?_ (IsS72.ge HI0.out) | refine below_set ?_ GE248.out | refine below_set ?_ GE255.out) | exact HB.out)); rintro e w74 ⟨rfl, hi, hb, hk⟩; refine ⟨_, rfl, ?_⟩; replace BK248 := Aside0.mk (KeepBut.blk hk (g' := gb248) (o := .cells #[.string (⟨#[]⟩ : ByteArray), .int .i64 0, .string (⟨#[]⟩ : ByteArray), .bool false] 29 (0, 0)) (bk_ BK248) NB248_0.out (by simp)); replace BK255 := Aside0.mk (KeepBut.blk hk (g' := gb255) (o := .cells #[.string t249, .int .i64 x256001_26, .string x256002_31, .bool x256003_31] 29 (0, 0)) (bk_ BK255) NB255_0.out (by simp)); replace HK := Aside0.mk (KeepBut.trans (by repeat (first | (with_reducible first | exact HK.out | apply KeepBut.set_ | apply keep_drewN | apply keep_drew | apply keep_alloc | refine keep_far ?_ GW248.out _ | refine keep_far ?_ GW255.out _) | exact HK.out)) hk (.inl rfl)); replace HB := Aside0.mk (hb); replace HI0 := Aside0.mk (hi); clear hb hk hi) | ((with_reducible refine gate_dst (N := 58) rfl ?_); refine Kd.R_lit (Kd.int .i64) _ 2 ?hg (N := 58) ?hd (xs := ([0, 4] : List Int)) (inner := [.int .i64 0, .int .i64 4]) (ok := fun _ => True) (okp := fun _ => True) ?hr ?hp (fun _ hk => hk) trivial (Below.refl _ _) (Nat.le_refl _) (by simp) ?_; (case hd => rfl); (case hg => rfl); (case hr => first | (go_simp; done) | (go_simp; rfl)); (case hp => exact (Reps.one (show Kd.M (Kd.int .i64) _ _ _ 0 [.int .i64 0] from rfl) (Reps.one (show Kd.M (Kd.int .i64) _ _ _ 4 [.int .i64 4] from rfl) (Reps.none _ _)))); intro v276 w75 ho76 hb hg_ hnew_; clear hg_ hnew_; (first | rw [← Ny275.out] at ho76 | (simp only [Int.reduceToNat] at ho76; rw [← Ny275.out] at ho76)); have HO277 := Aside0.mk (Kd.R_lower ho76 (keep_size (w := w) (g := g) (row := none) (by repeat (first | (with_reducible first | exact HK.out | apply KeepBut.set_ | apply keep_drewN | apply keep_drew | apply keep_alloc | refine keep_far ?_ GW248.out _ | refine keep_far ?_ GW255.out _) | exact HK.out)))); replace BK248 := Aside0.mk (blk_below (bk_ BK248) hb); replace BK255 := Aside0.mk (blk_below (bk_ BK255) hb); replace HK := Aside0.mk (KeepBut.trans (by repeat (first | (with_reducible first | exact HK.out | apply KeepBut.set_ | apply keep_drewN | apply keep_drew | apply keep_alloc | refine keep_far ?_ GW248.out _ | refine keep_far ?_ GW255.out _) | exact HK.out)) (KeepBut.of_below hb g none) (.inl rfl)); replace HB := Aside0.mk (below_step (by repeat (first | (with_reducible first | exact HB.out | apply below_alloc | apply pw_below_drewN | apply below_drew1 | refine below_set ?_ (IsS72.ge HI0.out) | refine below_set ?_ GE248.out | refine below_set ?_ GE255.out) | exact HB.out)) hb); replace HI0 := Aside0.mk (IsS72.below (by repeat (first | (with_reducible first | exact HI0.out | apply IsS72.alloc | apply IsS72.drewN | apply IsS72.drew | apply IsS72.set_1 | apply IsS72.set_2 | refine IsS72.far ?_ NB0_248.out _ | refine IsS72.far ?_ NB0_255.out _) | exact HI0.out)) hb); clear hb ho76) | ((with_reducible refine gate_callee (f := 32) rfl ?_); refine gL_ (some 60) Tryd.func32 #[.pointer (some ⟨g, 0, none⟩), .int .i64 2] ?_; (with_reducible refine (spec_l1Below.calls g s0_0 t266 t267 2 t278 t279 t280 w0 _ ?side1 ?side2 A70.out).mono ?_); (case side1 => repeat (first | (with_reducible first | exact HI0.out | apply IsS72.alloc | apply IsS72.drewN | apply IsS72.drew | apply IsS72.set_1 | apply IsS72.set_2 | refine IsS72.far ?_ NB0_248.out _ | refine IsS72.far ?_ NB0_255.out _) | exact HI0.out)); (case side2 => repeat (first | (with_reducible first | exact HB.out | apply below_alloc | apply pw_below_drewN | apply below_drew1 | refine below_set ?_ (IsS72.ge HI0.out) | refine below_set ?_ GE248.out | refine below_set ?_ GE255.out) | exact HB.out)); rintro e w77 ⟨rfl, hi, hb, hk⟩; refine ⟨_, rfl, ?_⟩; replace BK248 := Aside0.mk (KeepBut.blk hk (g' := gb248) (o := .cells #[.string (⟨#[]⟩ : ByteArray), .int .i64 0, .string (⟨#[]⟩ : ByteArray), .bool false] 29 (0, 0)) (bk_ BK248) NB248_0.out (by simp)); replace BK255 := Aside0.mk (KeepBut.blk hk (g' := gb255) (o := .cells #[.string t249, .int .i64 x256001_26, .string x256002_31, .bool x256003_31] 29 (0, 0)) (bk_ BK255) NB255_0.out (by simp)); replace HO277 := Aside0.mk (Kd.R_mono (Kd.R_keep (IsS72.apart (show IsS72 w0 _ g s0_0 t266 t267 from by repeat (first | (with_reducible first | exact HI0.out | apply IsS72.alloc | apply IsS72.drewN | apply IsS72.drew | apply IsS72.set_1 | apply IsS72.set_2 | refine IsS72.far ?_ NB0_248.out _ | refine IsS72.far ?_ NB0_255.out _) | exact HI0.out)) (kr_ HO277) (by decide)) hk (fun _ h => h.2)) (fun _ h => h.1)); replace HK := Aside0.mk (KeepBut.trans (by repeat (first | (with_reducible first | exact HK.out | apply KeepBut.set_ | apply keep_drewN | apply keep_drew | apply keep_alloc | refine keep_far ?_ GW248.out _ | refine keep_far ?_ GW255.out _) | exact HK.out)) hk (.inl rfl)); replace HB := Aside0.mk (hb); replace HI0 := Aside0.mk (hi); clear hb hk hi; obtain ⟨Ao78, co78, eo78⟩ := Kd.R_slice HO277.out; subst eo78; have p281 : 0 ≤ (t278 : Int) := dA_; have q281 : t278 < (y275.length : Int) := dA_; obtain ⟨ad281, e281, hx281_0⟩ := Kd.at_int (Kd.R_reads' HO277.out).2.2 t278 p281 q281; cases e281; replace p281 := eq_true p281; replace q281 := eq_true q281; have hnb79 := NB255_248.out; have hnc79 := NB248_255.out; have hnb80 := NB255_0.out; have hnc80 := NB0_255.out; obtain ⟨hcz81_0, hcz81_1, hcz81_2, hcz81_3, hfz81_0, hfz81_1, hfz81_2, hfz81_3⟩ := zc4_ BK255; have hnb82 := NB248_0.out; have hnc82 := NB0_248.out; obtain ⟨hcz83_0, hcz83_1, hcz83_2, hcz83_3, hfz83_0, hfz83_1, hfz83_2, hfz83_3⟩ := zc4_ BK248))
       refine bodyPost_ret (results_cell_row rfl _ _ gb248 29 #[.string t249, .int .i64 (rd y275 t278), .string x256002_31, .bool x256003_31] (0, 0) _ rfl (by (with_reducible repeat (first | refine blk_drewN ?_ _ | refine blk_drew ?_ | refine blk_alloc ?_ _)); refine blk_put (cs := #[.string t249, .int .i64 (rd y275 t278), .string x256002_31, .bool false]) ?_ 3 _ rfl; (with_reducible repeat (first | refine blk_drewN ?_ _ | refine blk_drew ?_ | refine blk_alloc ?_ _)); refine blk_put (cs := #[.string t249, .int .i64 (rd y275 t278), .string (⟨#[]⟩ : ByteArray), .bool false]) ?_ 2 _ rfl; (with_reducible repeat (first | refine blk_drewN ?_ _ | refine blk_drew ?_ | refine blk_alloc ?_ _)); refine blk_put (cs := #[.string t249, .int .i64 0, .string (⟨#[]⟩ : ByteArray), .bool false]) ?_ 1 _ rfl; (with_reducible repeat (first | refine blk_drewN ?_ _ | refine blk_drew ?_ | refine blk_alloc ?_ _)); refine blk_put (cs := #[.string (⟨#[]⟩ : ByteArray), .int .i64 0, .string (⟨#[]⟩ : ByteArray), .bool false]) ?_ 0 _ rfl; (with_reducible repeat (first | refine blk_drewN ?_ _ | refine blk_drew ?_ | refine blk_alloc ?_ _)); refine blk_far ?_ NB248_255.out _; exact bk_ BK248) Tryd.underlying29 rfl (by kernel_rfl)) rfl ?_
       exact ⟨eR_, by repeat (first | (with_reducible first | exact HI0.out | apply IsS72.alloc | apply IsS72.drewN | apply IsS72.drew | apply IsS72.set_1 | apply IsS72.set_2 | refine IsS72.far ?_ NB0_248.out _ | refine IsS72.far ?_ NB0_255.out _) | exact HI0.out), by repeat (first | (with_reducible first | exact HB.out | apply below_alloc | apply pw_below_drewN | apply below_drew1 | refine below_set ?_ (IsS72.ge HI0.out) | refine below_set ?_ GE248.out | refine below_set ?_ GE255.out) | exact HB.out), by repeat (first | (with_reducible first | exact HK.out | apply KeepBut.set_ | apply keep_drewN | apply keep_drew | apply keep_alloc | refine keep_far ?_ GW248.out _ | refine keep_far ?_ GW255.out _) | exact HK.out)⟩}
       {
       rw [if_neg c72] at H
       exact absurd H (by simp)}}
       {
       rw [if_neg c71] at H
       exact absurd H (by simp)}}
       {
       rw [if_neg c69] at H
       have c69b0 : (t265 == 1) = false := beq_eq_false_iff_ne.mpr c69
       have c69b1 : (t265 != 1) = true := bne_iff_ne.mpr c69
       by_cases c84 : t265 = 2
       {
       rw [if_pos c84] at H
       have c84b0 : (t265 == 2) = true := beq_iff_eq.mpr c84
       have c84b1 : (t265 != 2) = false := bne_eq_false_iff_eq.mpr c84
       clear c84
       simp only [Option.some.injEq, Prod.mk.injEq] at H
       obtain ⟨rfl, rfl, rfl, rfl, rfl, rfl⟩ := H
       go_wp2_with (first | ((with_reducible refine gate_callee (f := 47) rfl ?_); refine gL_ (some 45) Tryd.func47 #[.pointer (some ⟨g, 0, none⟩), .int .i64 30] ?_; (with_reducible refine (spec_l1Once.calls g s0_0 x1001_31 x1002_31 30 true t263 t264 w0 _ ?side1 ?side2 A51.out).mono ?_); (case side1 => repeat (first | (with_reducible first | exact HI0.out | apply IsS72.alloc | apply IsS72.drewN | apply IsS72.drew | apply IsS72.set_1 | apply IsS72.set_2 | refine IsS72.far ?_ NB0_248.out _ | refine IsS72.far ?_ NB0_255.out _) | exact HI0.out)); (case side2 => repeat (first | (with_reducible first | exact HB.out | apply below_alloc | apply pw_below_drewN | apply below_drew1 | refine below_set ?_ (IsS72.ge HI0.out) | refine below_set ?_ GE248.out | refine below_set ?_ GE255.out) | exact HB.out)); rintro e w85 ⟨rfl, hi, hb, hk⟩; refine ⟨_, rfl, ?_⟩; replace BK248 := Aside0.mk (KeepBut.blk hk (g' := gb248) (o := .cells #[.string (⟨#[]⟩ : ByteArray), .int .i64 0, .string (⟨#[]⟩ : ByteArray), .bool false] 29 (0, 0)) (bk_ BK248) NB248_0.out (by simp)); replace BK255 := Aside0.mk (KeepBut.blk hk (g' := gb255) (o := .cells #[.string t249, .int .i64 x256001_26, .string x256002_31, .bool x256003_31] 29 (0, 0)) (bk_ BK255) NB255_0.out (by simp)); replace HK := Aside0.mk (KeepBut.trans (by repeat (first | (with_reducible first | exact HK.out | apply KeepBut.set_ | apply keep_drewN | apply keep_drew | apply keep_alloc | refine keep_far ?_ GW248.out _ | refine keep_far ?_ GW255.out _) | exact HK.out)) hk (.inl rfl)); replace HB := Aside0.mk (hb); replace HI0 := Aside0.mk (hi); clear hb hk hi) | ((with_reducible refine gate_callee (f := 32) rfl ?_); refine gL_ (some 47) Tryd.func32 #[.pointer (some ⟨g, 0, none⟩), .int .i64 5] ?_; (with_reducible refine (spec_l1Below.calls g s0_0 t263 t264 5 t265 t266 t267 w0 _ ?side1 ?side2 A53.out).mono ?_); (case side1 => repeat (first | (with_reducible first | exact HI0.out | apply IsS72.alloc | apply IsS72.drewN | apply IsS72.drew | apply IsS72.set_1 | apply IsS72.set_2 | refine IsS72.far ?_ NB0_248.out _ | refine IsS72.far ?_ NB0_255.out _) | exact HI0.out)); (case side2 => repeat (first | (with_reducible first | exact HB.out | apply below_alloc | apply pw_below_drewN | apply below_drew1 | refine below_set ?_ (IsS72.ge HI0.out) | refine below_set ?_ GE248.out | refine below_set ?_ GE255.out) | exact HB.out)); rintro e w86 ⟨rfl, hi, hb, hk⟩; refine ⟨_, rfl, ?_⟩; replace BK248 := Aside0.mk (KeepBut.blk hk (g' := gb248) (o := .cells #[.string (⟨#[]⟩ : ByteArray), .int .i64 0, .string (⟨#[]⟩ : ByteArray), .bool false] 29 (0, 0)) (bk_ BK248) NB248_0.out (by simp)); replace BK255 := Aside0.mk (KeepBut.blk hk (g' := gb255) (o := .cells #[.string t249, .int .i64 x256001_26, .string x256002_31, .bool x256003_31] 29 (0, 0)) (bk_ BK255) NB255_0.out (by simp)); replace HK := Aside0.mk (KeepBut.trans (by repeat (first | (with_reducible first | exact HK.out | apply KeepBut.set_ | apply keep_drewN | apply keep_drew | apply keep_alloc | refine keep_far ?_ GW248.out _ | refine keep_far ?_ GW255.out _) | exact HK.out)) hk (.inl rfl)); replace HB := Aside0.mk (hb); replace HI0 := Aside0.mk (hi); clear hb hk hi; have hnb87 := NB255_248.out; have hnc87 := NB248_255.out; have hnb88 := NB255_0.out; have hnc88 := NB0_255.out; obtain ⟨hcz89_0, hcz89_1, hcz89_2, hcz89_3, hfz89_0, hfz89_1, hfz89_2, hfz89_3⟩ := zc4_ BK255; have hnb90 := NB248_0.out; have hnc90 := NB0_248.out; obtain ⟨hcz91_0, hcz91_1, hcz91_2, hcz91_3, hfz91_0, hfz91_1, hfz91_2, hfz91_3⟩ := zc4_ BK248))
       refine bodyPost_ret (results_cell_row rfl _ _ gb248 29 #[.string t249, .int .i64 x256001_26, .string x256002_31, .bool true] (0, 0) _ rfl (by (with_reducible repeat (first | refine blk_drewN ?_ _ | refine blk_drew ?_ | refine blk_alloc ?_ _)); refine blk_put (cs := #[.string t249, .int .i64 x256001_26, .string x256002_31, .bool false]) ?_ 3 _ rfl; (with_reducible repeat (first | refine blk_drewN ?_ _ | refine blk_drew ?_ | refine blk_alloc ?_ _)); refine blk_put (cs := #[.string t249, .int .i64 x256001_26, .string (⟨#[]⟩ : ByteArray), .bool false]) ?_ 2 _ rfl; (with_reducible repeat (first | refine blk_drewN ?_ _ | refine blk_drew ?_ | refine blk_alloc ?_ _)); refine blk_put (cs := #[.string t249, .int .i64 0, .string (⟨#[]⟩ : ByteArray), .bool false]) ?_ 1 _ rfl; (with_reducible repeat (first | refine blk_drewN ?_ _ | refine blk_drew ?_ | refine blk_alloc ?_ _)); refine blk_put (cs := #[.string (⟨#[]⟩ : ByteArray), .int .i64 0, .string (⟨#[]⟩ : ByteArray), .bool false]) ?_ 0 _ rfl; (with_reducible repeat (first | refine blk_drewN ?_ _ | refine blk_drew ?_ | refine blk_alloc ?_ _)); refine blk_far ?_ NB248_255.out _; exact bk_ BK248) Tryd.underlying29 rfl (by kernel_rfl)) rfl ?_
       exact ⟨eR_, by repeat (first | (with_reducible first | exact HI0.out | apply IsS72.alloc | apply IsS72.drewN | apply IsS72.drew | apply IsS72.set_1 | apply IsS72.set_2 | refine IsS72.far ?_ NB0_248.out _ | refine IsS72.far ?_ NB0_255.out _) | exact HI0.out), by repeat (first | (with_reducible first | exact HB.out | apply below_alloc | apply pw_below_drewN | apply below_drew1 | refine below_set ?_ (IsS72.ge HI0.out) | refine below_set ?_ GE248.out | refine below_set ?_ GE255.out) | exact HB.out), by repeat (first | (with_reducible first | exact HK.out | apply KeepBut.set_ | apply keep_drewN | apply keep_drew | apply keep_alloc | refine keep_far ?_ GW248.out _ | refine keep_far ?_ GW255.out _) | exact HK.out)⟩}
       {
       rw [if_neg c84] at H
       have c84b0 : (t265 == 2) = false := beq_eq_false_iff_ne.mpr c84
       have c84b1 : (t265 != 2) = true := bne_iff_ne.mpr c84
       by_cases c92 : t265 = 3
       {
       rw [if_pos c92] at H
       have c92b0 : (t265 == 3) = true := beq_iff_eq.mpr c92
       have c92b1 : (t265 != 3) = false := bne_eq_false_iff_eq.mpr c92
       clear c92
       simp only [Option.some.injEq, Prod.mk.injEq] at H
       obtain ⟨rfl, rfl, rfl, rfl, rfl, rfl⟩ := H
       go_wp2_with (first | ((with_reducible refine gate_callee (f := 47) rfl ?_); refine gL_ (some 45) Tryd.func47 #[.pointer (some ⟨g, 0, none⟩), .int .i64 30] ?_; (with_reducible refine (spec_l1Once.calls g s0_0 x1001_31 x1002_31 30 true t263 t264 w0 _ ?side1 ?side2 A51.out).mono ?_); (case side1 => repeat (first | (with_reducible first | exact HI0.out | apply IsS72.alloc | apply IsS72.drewN | apply IsS72.drew | apply IsS72.set_1 | apply IsS72.set_2 | refine IsS72.far ?_ NB0_248.out _ | refine IsS72.far ?_ NB0_255.out _) | exact HI0.out)); (case side2 => repeat (first | (with_reducible first | exact HB.out | apply below_alloc | apply pw_below_drewN | apply below_drew1 | refine below_set ?_ (IsS72.ge HI0.out) | refine below_set ?_ GE248.out | refine below_set ?_ GE255.out) | exact HB.out)); rintro e w93 ⟨rfl, hi, hb, hk⟩; refine ⟨_, rfl, ?_⟩; replace BK248 := Aside0.mk (KeepBut.blk hk (g' := gb248) (o := .cells #[.string (⟨#[]⟩ : ByteArray), .int .i64 0, .string (⟨#[]⟩ : ByteArray), .bool false] 29 (0, 0)) (bk_ BK248) NB248_0.out (by simp)); replace BK255 := Aside0.mk (KeepBut.blk hk (g' := gb255) (o := .cells #[.string t249, .int .i64 x256001_26, .string x256002_31, .bool x256003_31] 29 (0, 0)) (bk_ BK255) NB255_0.out (by simp)); replace HK := Aside0.mk (KeepBut.trans (by repeat (first | (with_reducible first | exact HK.out | apply KeepBut.set_ | apply keep_drewN | apply keep_drew | apply keep_alloc | refine keep_far ?_ GW248.out _ | refine keep_far ?_ GW255.out _) | exact HK.out)) hk (.inl rfl)); replace HB := Aside0.mk (hb); replace HI0 := Aside0.mk (hi); clear hb hk hi) | ((with_reducible refine gate_callee (f := 32) rfl ?_); refine gL_ (some 47) Tryd.func32 #[.pointer (some ⟨g, 0, none⟩), .int .i64 5] ?_; (with_reducible refine (spec_l1Below.calls g s0_0 t263 t264 5 t265 t266 t267 w0 _ ?side1 ?side2 A53.out).mono ?_); (case side1 => repeat (first | (with_reducible first | exact HI0.out | apply IsS72.alloc | apply IsS72.drewN | apply IsS72.drew | apply IsS72.set_1 | apply IsS72.set_2 | refine IsS72.far ?_ NB0_248.out _ | refine IsS72.far ?_ NB0_255.out _) | exact HI0.out)); (case side2 => repeat (first | (with_reducible first | exact HB.out | apply below_alloc | apply pw_below_drewN | apply below_drew1 | refine below_set ?_ (IsS72.ge HI0.out) | refine below_set ?_ GE248.out | refine below_set ?_ GE255.out) | exact HB.out)); rintro e w94 ⟨rfl, hi, hb, hk⟩; refine ⟨_, rfl, ?_⟩; replace BK248 := Aside0.mk (KeepBut.blk hk (g' := gb248) (o := .cells #[.string (⟨#[]⟩ : ByteArray), .int .i64 0, .string (⟨#[]⟩ : ByteArray), .bool false] 29 (0, 0)) (bk_ BK248) NB248_0.out (by simp)); replace BK255 := Aside0.mk (KeepBut.blk hk (g' := gb255) (o := .cells #[.string t249, .int .i64 x256001_26, .string x256002_31, .bool x256003_31] 29 (0, 0)) (bk_ BK255) NB255_0.out (by simp)); replace HK := Aside0.mk (KeepBut.trans (by repeat (first | (with_reducible first | exact HK.out | apply KeepBut.set_ | apply keep_drewN | apply keep_drew | apply keep_alloc | refine keep_far ?_ GW248.out _ | refine keep_far ?_ GW255.out _) | exact HK.out)) hk (.inl rfl)); replace HB := Aside0.mk (hb); replace HI0 := Aside0.mk (hi); clear hb hk hi; have hnb95 := NB255_248.out; have hnc95 := NB248_255.out; have hnb96 := NB255_0.out; have hnc96 := NB0_255.out; obtain ⟨hcz97_0, hcz97_1, hcz97_2, hcz97_3, hfz97_0, hfz97_1, hfz97_2, hfz97_3⟩ := zc4_ BK255; have hnb98 := NB248_0.out; have hnc98 := NB0_248.out; obtain ⟨hcz99_0, hcz99_1, hcz99_2, hcz99_3, hfz99_0, hfz99_1, hfz99_2, hfz99_3⟩ := zc4_ BK248))
       refine bodyPost_ret (results_cell_row rfl _ _ gb248 29 #[.string t249, .int .i64 x256001_26, .string (⟨#[]⟩ : ByteArray), .bool x256003_31] (0, 0) _ rfl (by (with_reducible repeat (first | refine blk_drewN ?_ _ | refine blk_drew ?_ | refine blk_alloc ?_ _)); refine blk_put (cs := #[.string t249, .int .i64 x256001_26, .string (⟨#[]⟩ : ByteArray), .bool false]) ?_ 3 _ rfl; (with_reducible repeat (first | refine blk_drewN ?_ _ | refine blk_drew ?_ | refine blk_alloc ?_ _)); refine blk_put (cs := #[.string t249, .int .i64 x256001_26, .string (⟨#[]⟩ : ByteArray), .bool false]) ?_ 2 _ rfl; (with_reducible repeat (first | refine blk_drewN ?_ _ | refine blk_drew ?_ | refine blk_alloc ?_ _)); refine blk_put (cs := #[.string t249, .int .i64 0, .string (⟨#[]⟩ : ByteArray), .bool false]) ?_ 1 _ rfl; (with_reducible repeat (first | refine blk_drewN ?_ _ | refine blk_drew ?_ | refine blk_alloc ?_ _)); refine blk_put (cs := #[.string (⟨#[]⟩ : ByteArray), .int .i64 0, .string (⟨#[]⟩ : ByteArray), .bool false]) ?_ 0 _ rfl; (with_reducible repeat (first | refine blk_drewN ?_ _ | refine blk_drew ?_ | refine blk_alloc ?_ _)); refine blk_far ?_ NB248_255.out _; exact bk_ BK248) Tryd.underlying29 rfl (by kernel_rfl)) rfl ?_
       exact ⟨eR_, by repeat (first | (with_reducible first | exact HI0.out | apply IsS72.alloc | apply IsS72.drewN | apply IsS72.drew | apply IsS72.set_1 | apply IsS72.set_2 | refine IsS72.far ?_ NB0_248.out _ | refine IsS72.far ?_ NB0_255.out _) | exact HI0.out), by repeat (first | (with_reducible first | exact HB.out | apply below_alloc | apply pw_below_drewN | apply below_drew1 | refine below_set ?_ (IsS72.ge HI0.out) | refine below_set ?_ GE248.out | refine below_set ?_ GE255.out) | exact HB.out), by repeat (first | (with_reducible first | exact HK.out | apply KeepBut.set_ | apply keep_drewN | apply keep_drew | apply keep_alloc | refine keep_far ?_ GW248.out _ | refine keep_far ?_ GW255.out _) | exact HK.out)⟩}
       {
       rw [if_neg c92] at H
       have c92b0 : (t265 == 3) = false := beq_eq_false_iff_ne.mpr c92
       have c92b1 : (t265 != 3) = true := bne_iff_ne.mpr c92
       by_cases c100 : t265 = 4
       {
       rw [if_pos c100] at H
       have c100b0 : (t265 == 4) = true := beq_iff_eq.mpr c100
       have c100b1 : (t265 != 4) = false := bne_eq_false_iff_eq.mpr c100
       clear c100
       by_cases c101 : 20001 ≤ 281474976710656
       {
       rw [if_pos c101] at H
       have c101b0 := eq_true c101
       have c101b1 := decide_eq_true c101
       clear c101
       obtain ⟨y282, hy282⟩ : ∃ y_ : List Int, y_ = (List.replicate 20001 0) := ⟨_, rfl⟩
       replace H : (some (t249, x256001_26, strOfNums y282, x256003_31, t266, t267)) = some (r1, r2, r3, r4, r5, r6) := rH_ hy282 H
       have Ny282 := Aside0.mk hy282
       clear hy282
       simp only [Option.some.injEq, Prod.mk.injEq] at H
       obtain ⟨rfl, rfl, rfl, rfl, rfl, rfl⟩ := H
       go_wp2_with (first | ((with_reducible refine gate_callee (f := 47) rfl ?_); refine gL_ (some 45) Tryd.func47 #[.pointer (some ⟨g, 0, none⟩), .int .i64 30] ?_; (with_reducible refine (spec_l1Once.calls g s0_0 x1001_31 x1002_31 30 true t263 t264 w0 _ ?side1 ?side2 A51.out).mono ?_); (case side1 => repeat (first | (with_reducible first | exact HI0.out | apply IsS72.alloc | apply IsS72.drewN | apply IsS72.drew | apply IsS72.set_1 | apply IsS72.set_2 | refine IsS72.far ?_ NB0_248.out _ | refine IsS72.far ?_ NB0_255.out _) | exact HI0.out)); (case side2 => repeat (first | (with_reducible first | exact HB.out | apply below_alloc | apply pw_below_drewN | apply below_drew1 | refine below_set ?_ (IsS72.ge HI0.out) | refine below_set ?_ GE248.out | refine below_set ?_ GE255.out) | exact HB.out)); rintro e w102 ⟨rfl, hi, hb, hk⟩; refine ⟨_, rfl, ?_⟩; replace BK248 := Aside0.mk (KeepBut.blk hk (g' := gb248) (o := .cells #[.string (⟨#[]⟩ : ByteArray), .int .i64 0, .string (⟨#[]⟩ : ByteArray), .bool false] 29 (0, 0)) (bk_ BK248) NB248_0.out (by simp)); replace BK255 := Aside0.mk (KeepBut.blk hk (g' := gb255) (o := .cells #[.string t249, .int .i64 x256001_26, .string x256002_31, .bool x256003_31] 29 (0, 0)) (bk_ BK255) NB255_0.out (by simp)); replace HK := Aside0.mk (KeepBut.trans (by repeat (first | (with_reducible first | exact HK.out | apply KeepBut.set_ | apply keep_drewN | apply keep_drew | apply keep_alloc | refine keep_far ?_ GW248.out _ | refine keep_far ?_ GW255.out _) | exact HK.out)) hk (.inl rfl)); replace HB := Aside0.mk (hb); replace HI0 := Aside0.mk (hi); clear hb hk hi) | ((with_reducible refine gate_callee (f := 32) rfl ?_); refine gL_ (some 47) Tryd.func32 #[.pointer (some ⟨g, 0, none⟩), .int .i64 5] ?_; (with_reducible refine (spec_l1Below.calls g s0_0 t263 t264 5 t265 t266 t267 w0 _ ?side1 ?side2 A53.out).mono ?_); (case side1 => repeat (first | (with_reducible first | exact HI0.out | apply IsS72.alloc | apply IsS72.drewN | apply IsS72.drew | apply IsS72.set_1 | apply IsS72.set_2 | refine IsS72.far ?_ NB0_248.out _ | refine IsS72.far ?_ NB0_255.out _) | exact HI0.out)); (case side2 => repeat (first | (with_reducible first | exact HB.out | apply below_alloc | apply pw_below_drewN | apply below_drew1 | refine below_set ?_ (IsS72.ge HI0.out) | refine below_set ?_ GE248.out | refine below_set ?_ GE255.out) | exact HB.out)); rintro e w103 ⟨rfl, hi, hb, hk⟩; refine ⟨_, rfl, ?_⟩; replace BK248 := Aside0.mk (KeepBut.blk hk (g' := gb248) (o := .cells #[.string (⟨#[]⟩ : ByteArray), .int .i64 0, .string (⟨#[]⟩ : ByteArray), .bool false] 29 (0, 0)) (bk_ BK248) NB248_0.out (by simp)); replace BK255 := Aside0.mk (KeepBut.blk hk (g' := gb255) (o := .cells #[.string t249, .int .i64 x256001_26, .string x256002_31, .bool x256003_31] 29 (0, 0)) (bk_ BK255) NB255_0.out (by simp)); replace HK := Aside0.mk (KeepBut.trans (by repeat (first | (with_reducible first | exact HK.out | apply KeepBut.set_ | apply keep_drewN | apply keep_drew | apply keep_alloc | refine keep_far ?_ GW248.out _ | refine keep_far ?_ GW255.out _) | exact HK.out)) hk (.inl rfl)); replace HB := Aside0.mk (hb); replace HI0 := Aside0.mk (hi); clear hb hk hi) | ((with_reducible refine gate_dst (N := 72) rfl ?_); refine Kd.R_make (Kd.int .u8) _ 5 rfl (N := 72) rfl 22 _ _ rfl 20001 rfl rfl Tryd.underlying22 (.int .u8 0) 1 info5 rfl (by decide) (by omega) 0 (ok := fun _ => True) (okp := fun _ => True) rfl (fun _ hk => hk) trivial (by omega) (by omega) (Below.refl _ _) (Nat.le_refl _) ?_; intro v283 w104 ho105 hb hg_ hnew_; clear hg_ hnew_; (first | rw [← Ny282.out] at ho105 | (simp only [Int.reduceToNat] at ho105; rw [← Ny282.out] at ho105)); have HO284 := Aside0.mk (Kd.R_lower ho105 (keep_size (w := w) (g := g) (row := none) (by repeat (first | (with_reducible first | exact HK.out | apply KeepBut.set_ | apply keep_drewN | apply keep_drew | apply keep_alloc | refine keep_far ?_ GW248.out _ | refine keep_far ?_ GW255.out _) | exact HK.out)))); replace BK248 := Aside0.mk (blk_below (bk_ BK248) hb); replace BK255 := Aside0.mk (blk_below (bk_ BK255) hb); replace HK := Aside0.mk (KeepBut.trans (by repeat (first | (with_reducible first | exact HK.out | apply KeepBut.set_ | apply keep_drewN | apply keep_drew | apply keep_alloc | refine keep_far ?_ GW248.out _ | refine keep_far ?_ GW255.out _) | exact HK.out)) (KeepBut.of_below hb g none) (.inl rfl)); replace HB := Aside0.mk (below_step (by repeat (first | (with_reducible first | exact HB.out | apply below_alloc | apply pw_below_drewN | apply below_drew1 | refine below_set ?_ (IsS72.ge HI0.out) | refine below_set ?_ GE248.out | refine below_set ?_ GE255.out) | exact HB.out)) hb); replace HI0 := Aside0.mk (IsS72.below (by repeat (first | (with_reducible first | exact HI0.out | apply IsS72.alloc | apply IsS72.drewN | apply IsS72.drew | apply IsS72.set_1 | apply IsS72.set_2 | refine IsS72.far ?_ NB0_248.out _ | refine IsS72.far ?_ NB0_255.out _) | exact HI0.out)) hb); clear hb ho105; have hcv106 := own_string (P := Tryd.prog) Tryd.underlying22 Tryd.underlying5 Tryd.underlying9 (Kd.own_of_R HO284.out); have hnb107 := NB255_248.out; have hnc107 := NB248_255.out; have hnb108 := NB255_0.out; have hnc108 := NB0_255.out; obtain ⟨hcz109_0, hcz109_1, hcz109_2, hcz109_3, hfz109_0, hfz109_1, hfz109_2, hfz109_3⟩ := zc4_ BK255; have hnb110 := NB248_0.out; have hnc110 := NB0_248.out; obtain ⟨hcz111_0, hcz111_1, hcz111_2, hcz111_3, hfz111_0, hfz111_1, hfz111_2, hfz111_3⟩ := zc4_ BK248))
       refine bodyPost_ret (results_cell_row rfl _ _ gb248 29 #[.string t249, .int .i64 x256001_26, .string (strOfNums y282), .bool x256003_31] (0, 0) _ rfl (by (with_reducible repeat (first | refine blk_drewN ?_ _ | refine blk_drew ?_ | refine blk_alloc ?_ _)); refine blk_put (cs := #[.string t249, .int .i64 x256001_26, .string (strOfNums y282), .bool false]) ?_ 3 _ rfl; (with_reducible repeat (first | refine blk_drewN ?_ _ | refine blk_drew ?_ | refine blk_alloc ?_ _)); refine blk_put (cs := #[.string t249, .int .i64 x256001_26, .string (⟨#[]⟩ : ByteArray), .bool false]) ?_ 2 _ rfl; (with_reducible repeat (first | refine blk_drewN ?_ _ | refine blk_drew ?_ | refine blk_alloc ?_ _)); refine blk_put (cs := #[.string t249, .int .i64 0, .string (⟨#[]⟩ : ByteArray), .bool false]) ?_ 1 _ rfl; (with_reducible repeat (first | refine blk_drewN ?_ _ | refine blk_drew ?_ | refine blk_alloc ?_ _)); refine blk_put (cs := #[.string (⟨#[]⟩ : ByteArray), .int .i64 0, .string (⟨#[]⟩ : ByteArray), .bool false]) ?_ 0 _ rfl; (with_reducible repeat (first | refine blk_drewN ?_ _ | refine blk_drew ?_ | refine blk_alloc ?_ _)); refine blk_far ?_ NB248_255.out _; exact bk_ BK248) Tryd.underlying29 rfl (by kernel_rfl)) rfl ?_
       exact ⟨eR_, by repeat (first | (with_reducible first | exact HI0.out | apply IsS72.alloc | apply IsS72.drewN | apply IsS72.drew | apply IsS72.set_1 | apply IsS72.set_2 | refine IsS72.far ?_ NB0_248.out _ | refine IsS72.far ?_ NB0_255.out _) | exact HI0.out), by repeat (first | (with_reducible first | exact HB.out | apply below_alloc | apply pw_below_drewN | apply below_drew1 | refine below_set ?_ (IsS72.ge HI0.out) | refine below_set ?_ GE248.out | refine below_set ?_ GE255.out) | exact HB.out), by repeat (first | (with_reducible first | exact HK.out | apply KeepBut.set_ | apply keep_drewN | apply keep_drew | apply keep_alloc | refine keep_far ?_ GW248.out _ | refine keep_far ?_ GW255.out _) | exact HK.out)⟩}
       {
       rw [if_neg c101] at H
       exact absurd H (by simp)}}
       {
       rw [if_neg c100] at H
       have c100b0 : (t265 == 4) = false := beq_eq_false_iff_ne.mpr c100
       have c100b1 : (t265 != 4) = true := bne_iff_ne.mpr c100
       simp only [Option.some.injEq, Prod.mk.injEq] at H
       obtain ⟨rfl, rfl, rfl, rfl, rfl, rfl⟩ := H
       go_wp2_with (first | ((with_reducible refine gate_callee (f := 47) rfl ?_); refine gL_ (some 45) Tryd.func47 #[.pointer (some ⟨g, 0, none⟩), .int .i64 30] ?_; (with_reducible refine (spec_l1Once.calls g s0_0 x1001_31 x1002_31 30 true t263 t264 w0 _ ?side1 ?side2 A51.out).mono ?_); (case side1 => repeat (first | (with_reducible first | exact HI0.out | apply IsS72.alloc | apply IsS72.drewN | apply IsS72.drew | apply IsS72.set_1 | apply IsS72.set_2 | refine IsS72.far ?_ NB0_248.out _ | refine IsS72.far ?_ NB0_255.out _) | exact HI0.out)); (case side2 => repeat (first | (with_reducible first | exact HB.out | apply below_alloc | apply pw_below_drewN | apply below_drew1 | refine below_set ?_ (IsS72.ge HI0.out) | refine below_set ?_ GE248.out | refine below_set ?_ GE255.out) | exact HB.out)); rintro e w112 ⟨rfl, hi, hb, hk⟩; refine ⟨_, rfl, ?_⟩; replace BK248 := Aside0.mk (KeepBut.blk hk (g' := gb248) (o := .cells #[.string (⟨#[]⟩ : ByteArray), .int .i64 0, .string (⟨#[]⟩ : ByteArray), .bool false] 29 (0, 0)) (bk_ BK248) NB248_0.out (by simp)); replace BK255 := Aside0.mk (KeepBut.blk hk (g' := gb255) (o := .cells #[.string t249, .int .i64 x256001_26, .string x256002_31, .bool x256003_31] 29 (0, 0)) (bk_ BK255) NB255_0.out (by simp)); replace HK := Aside0.mk (KeepBut.trans (by repeat (first | (with_reducible first | exact HK.out | apply KeepBut.set_ | apply keep_drewN | apply keep_drew | apply keep_alloc | refine keep_far ?_ GW248.out _ | refine keep_far ?_ GW255.out _) | exact HK.out)) hk (.inl rfl)); replace HB := Aside0.mk (hb); replace HI0 := Aside0.mk (hi); clear hb hk hi) | ((with_reducible refine gate_callee (f := 32) rfl ?_); refine gL_ (some 47) Tryd.func32 #[.pointer (some ⟨g, 0, none⟩), .int .i64 5] ?_; (with_reducible refine (spec_l1Below.calls g s0_0 t263 t264 5 t265 t266 t267 w0 _ ?side1 ?side2 A53.out).mono ?_); (case side1 => repeat (first | (with_reducible first | exact HI0.out | apply IsS72.alloc | apply IsS72.drewN | apply IsS72.drew | apply IsS72.set_1 | apply IsS72.set_2 | refine IsS72.far ?_ NB0_248.out _ | refine IsS72.far ?_ NB0_255.out _) | exact HI0.out)); (case side2 => repeat (first | (with_reducible first | exact HB.out | apply below_alloc | apply pw_below_drewN | apply below_drew1 | refine below_set ?_ (IsS72.ge HI0.out) | refine below_set ?_ GE248.out | refine below_set ?_ GE255.out) | exact HB.out)); rintro e w113 ⟨rfl, hi, hb, hk⟩; refine ⟨_, rfl, ?_⟩; replace BK248 := Aside0.mk (KeepBut.blk hk (g' := gb248) (o := .cells #[.string (⟨#[]⟩ : ByteArray), .int .i64 0, .string (⟨#[]⟩ : ByteArray), .bool false] 29 (0, 0)) (bk_ BK248) NB248_0.out (by simp)); replace BK255 := Aside0.mk (KeepBut.blk hk (g' := gb255) (o := .cells #[.string t249, .int .i64 x256001_26, .string x256002_31, .bool x256003_31] 29 (0, 0)) (bk_ BK255) NB255_0.out (by simp)); replace HK := Aside0.mk (KeepBut.trans (by repeat (first | (with_reducible first | exact HK.out | apply KeepBut.set_ | apply keep_drewN | apply keep_drew | apply keep_alloc | refine keep_far ?_ GW248.out _ | refine keep_far ?_ GW255.out _) | exact HK.out)) hk (.inl rfl)); replace HB := Aside0.mk (hb); replace HI0 := Aside0.mk (hi); clear hb hk hi; have hnb114 := NB255_248.out; have hnc114 := NB248_255.out; have hnb115 := NB255_0.out; have hnc115 := NB0_255.out; obtain ⟨hcz116_0, hcz116_1, hcz116_2, hcz116_3, hfz116_0, hfz116_1, hfz116_2, hfz116_3⟩ := zc4_ BK255; have hnb117 := NB248_0.out; have hnc117 := NB0_248.out; obtain ⟨hcz118_0, hcz118_1, hcz118_2, hcz118_3, hfz118_0, hfz118_1, hfz118_2, hfz118_3⟩ := zc4_ BK248))
       refine bodyPost_ret (results_cell_row rfl _ _ gb248 29 #[.string t249, .int .i64 x256001_26, .string x256002_31, .bool x256003_31] (0, 0) _ rfl (by (with_reducible repeat (first | refine blk_drewN ?_ _ | refine blk_drew ?_ | refine blk_alloc ?_ _)); refine blk_put (cs := #[.string t249, .int .i64 x256001_26, .string x256002_31, .bool false]) ?_ 3 _ rfl; (with_reducible repeat (first | refine blk_drewN ?_ _ | refine blk_drew ?_ | refine blk_alloc ?_ _)); refine blk_put (cs := #[.string t249, .int .i64 x256001_26, .string (⟨#[]⟩ : ByteArray), .bool false]) ?_ 2 _ rfl; (with_reducible repeat (first | refine blk_drewN ?_ _ | refine blk_drew ?_ | refine blk_alloc ?_ _)); refine blk_put (cs := #[.string t249, .int .i64 0, .string (⟨#[]⟩ : ByteArray), .bool false]) ?_ 1 _ rfl; (with_reducible repeat (first | refine blk_drewN ?_ _ | refine blk_drew ?_ | refine blk_alloc ?_ _)); refine blk_put (cs := #[.string (⟨#[]⟩ : ByteArray), .int .i64 0, .string (⟨#[]⟩ : ByteArray), .bool false]) ?_ 0 _ rfl; exact bk_ BK248) Tryd.underlying29 rfl (by kernel_rfl)) rfl ?_
       exact ⟨eR_, by repeat (first | (with_reducible first | exact HI0.out | apply IsS72.alloc | apply IsS72.drewN | apply IsS72.drew | apply IsS72.set_1 | apply IsS72.set_2 | refine IsS72.far ?_ NB0_248.out _ | refine IsS72.far ?_ NB0_255.out _) | exact HI0.out), by repeat (first | (with_reducible first | exact HB.out | apply below_alloc | apply pw_below_drewN | apply below_drew1 | refine below_set ?_ (IsS72.ge HI0.out) | refine below_set ?_ GE248.out | refine below_set ?_ GE255.out) | exact HB.out), by repeat (first | (with_reducible first | exact HK.out | apply KeepBut.set_ | apply keep_drewN | apply keep_drew | apply keep_alloc | refine keep_far ?_ GW248.out _ | refine keep_far ?_ GW255.out _) | exact HK.out)⟩}}}}}}
       {
       replace c52 := Bool.eq_false_iff.mpr c52
       subst c52
       rw [if_neg (show ¬ (false = true) by decide)] at H
       simp only [Option.some.injEq, Prod.mk.injEq] at H
       obtain ⟨rfl, rfl, rfl, rfl, rfl, rfl⟩ := H
       go_wp2_with (first | ((with_reducible refine gate_callee (f := 47) rfl ?_); refine gL_ (some 45) Tryd.func47 #[.pointer (some ⟨g, 0, none⟩), .int .i64 30] ?_; (with_reducible refine (spec_l1Once.calls g s0_0 x1001_31 x1002_31 30 false t263 t264 w0 _ ?side1 ?side2 A51.out).mono ?_); (case side1 => repeat (first | (with_reducible first | exact HI0.out | apply IsS72.alloc | apply IsS72.drewN | apply IsS72.drew | apply IsS72.set_1 | apply IsS72.set_2 | refine IsS72.far ?_ NB0_248.out _ | refine IsS72.far ?_ NB0_255.out _) | exact HI0.out)); (case side2 => repeat (first | (with_reducible first | exact HB.out | apply below_alloc | apply pw_below_drewN | apply below_drew1 | refine below_set ?_ (IsS72.ge HI0.out) | refine below_set ?_ GE248.out | refine below_set ?_ GE255.out) | exact HB.out)); rintro e w119 ⟨rfl, hi, hb, hk⟩; refine ⟨_, rfl, ?_⟩; replace BK248 := Aside0.mk (KeepBut.blk hk (g' := gb248) (o := .cells #[.string (⟨#[]⟩ : ByteArray), .int .i64 0, .string (⟨#[]⟩ : ByteArray), .bool false] 29 (0, 0)) (bk_ BK248) NB248_0.out (by simp)); replace BK255 := Aside0.mk (KeepBut.blk hk (g' := gb255) (o := .cells #[.string t249, .int .i64 x256001_26, .string x256002_31, .bool x256003_31] 29 (0, 0)) (bk_ BK255) NB255_0.out (by simp)); replace HK := Aside0.mk (KeepBut.trans (by repeat (first | (with_reducible first | exact HK.out | apply KeepBut.set_ | apply keep_drewN | apply keep_drew | apply keep_alloc | refine keep_far ?_ GW248.out _ | refine keep_far ?_ GW255.out _) | exact HK.out)) hk (.inl rfl)); replace HB := Aside0.mk (hb); replace HI0 := Aside0.mk (hi); clear hb hk hi; have hnb120 := NB255_248.out; have hnc120 := NB248_255.out; have hnb121 := NB255_0.out; have hnc121 := NB0_255.out; obtain ⟨hcz122_0, hcz122_1, hcz122_2, hcz122_3, hfz122_0, hfz122_1, hfz122_2, hfz122_3⟩ := zc4_ BK255; have hnb123 := NB248_0.out; have hnc123 := NB0_248.out; obtain ⟨hcz124_0, hcz124_1, hcz124_2, hcz124_3, hfz124_0, hfz124_1, hfz124_2, hfz124_3⟩ := zc4_ BK248))
       refine bodyPost_ret (results_cell_row rfl _ _ gb248 29 #[.string t249, .int .i64 x256001_26, .string x256002_31, .bool x256003_31] (0, 0) _ rfl (by (with_reducible repeat (first | refine blk_drewN ?_ _ | refine blk_drew ?_ | refine blk_alloc ?_ _)); refine blk_put (cs := #[.string t249, .int .i64 x256001_26, .string x256002_31, .bool false]) ?_ 3 _ rfl; (with_reducible repeat (first | refine blk_drewN ?_ _ | refine blk_drew ?_ | refine blk_alloc ?_ _)); refine blk_put (cs := #[.string t249, .int .i64 x256001_26, .string (⟨#[]⟩ : ByteArray), .bool false]) ?_ 2 _ rfl; (with_reducible repeat (first | refine blk_drewN ?_ _ | refine blk_drew ?_ | refine blk_alloc ?_ _)); refine blk_put (cs := #[.string t249, .int .i64 0, .string (⟨#[]⟩ : ByteArray), .bool false]) ?_ 1 _ rfl; (with_reducible repeat (first | refine blk_drewN ?_ _ | refine blk_drew ?_ | refine blk_alloc ?_ _)); refine blk_put (cs := #[.string (⟨#[]⟩ : ByteArray), .int .i64 0, .string (⟨#[]⟩ : ByteArray), .bool false]) ?_ 0 _ rfl; exact bk_ BK248) Tryd.underlying29 rfl (by kernel_rfl)) rfl ?_
       exact ⟨eR_, by repeat (first | (with_reducible first | exact HI0.out | apply IsS72.alloc | apply IsS72.drewN | apply IsS72.drew | apply IsS72.set_1 | apply IsS72.set_2 | refine IsS72.far ?_ NB0_248.out _ | refine IsS72.far ?_ NB0_255.out _) | exact HI0.out), by repeat (first | (with_reducible first | exact HB.out | apply below_alloc | apply pw_below_drewN | apply below_drew1 | refine below_set ?_ (IsS72.ge HI0.out) | refine below_set ?_ GE248.out | refine below_set ?_ GE255.out) | exact HB.out), by repeat (first | (with_reducible first | exact HK.out | apply KeepBut.set_ | apply keep_drewN | apply keep_drew | apply keep_alloc | refine keep_far ?_ GW248.out _ | refine keep_far ?_ GW255.out _) | exact HK.out)⟩
}
def spec_l10Under.f (a0 : ByteArray) (a1 : ByteArray) : Option (Bool) := if (a0.size : Int) > (a1.size : Int) then (if 0 ≤ (wrap64 ((a1.size : Int) + 1)) then (if (wrap64 ((a1.size : Int) + 1)) ≤ (a0.size : Int) then (if a1.size + 1 ≤ 9223372036854775807 then (some ((a0.extract 0 ((wrap64 ((a1.size : Int) + 1)) : Int).toNat).toList == (a1 ++ (⟨#[47]⟩ : ByteArray)).toList)) else (none)) else (none)) else (none)) else (some false)
theorem spec_l10Under.calls (a0 : ByteArray) (a1 : ByteArray) (r : Bool) (w : World) (h : spec_l10Under.f a0 a1 = some r) :
 Calls Tryd.prog 68 #[.string a0, .string a1] w fun e w' => e = .returned (.bool r) ∧ Drawn0 w w' := by
 have H : (if (a0.size : Int) > (a1.size : Int) then (if 0 ≤ (wrap64 ((a1.size : Int) + 1)) then (if (wrap64 ((a1.size : Int) + 1)) ≤ (a0.size : Int) then (if a1.size + 1 ≤ 9223372036854775807 then (some ((a0.extract 0 ((wrap64 ((a1.size : Int) + 1)) : Int).toNat).toList == (a1 ++ (⟨#[47]⟩ : ByteArray)).toList)) else (none)) else (none)) else (none)) else (some false)) = some r := h
 clear h
 by_cases c3 : (a0.size : Int) > (a1.size : Int)
 {
 rw [if_pos c3] at H
 have c3b0 : decide ((a1.size : Int) < (a0.size : Int)) = true := decide_eq_true c3
 have c3b1 : decide (a1.size < a0.size) = true := decide_eq_true (Int.ofNat_lt.mp c3)
 clear c3
 obtain ⟨ji4, hji4⟩ : ∃ j_ : Int, (wrap64 ((a1.size : Int) + 1)) = j_ := ⟨_, rfl⟩
 replace H : (if 0 ≤ (ji4) then (if (ji4) ≤ (a0.size : Int) then (if a1.size + 1 ≤ 9223372036854775807 then (some ((a0.extract 0 ((ji4) : Int).toNat).toList == (a1 ++ (⟨#[47]⟩ : ByteArray)).toList)) else (none)) else (none)) else (none)) = some r := by first | (rw [hji4] at H; exact H) | (simp only [hji4] at H ⊢; exact H)
 have hji4w : (IntKind.i64.wrap ((a1.size : Int) + 1)) = ji4 := (i64_w _).trans hji4
 by_cases c5 : 0 ≤ (ji4)
 {
 rw [if_pos c5] at H
 have c5b0 := eq_true c5
 have c5b1 := decide_eq_true c5
 clear c5
 by_cases c6 : (ji4) ≤ (a0.size : Int)
 {
 rw [if_pos c6] at H
 have c6b0 := eq_true c6
 have c6b1 := decide_eq_true c6
 clear c6
 by_cases c7 : a1.size + 1 ≤ 9223372036854775807
 {
 rw [if_pos c7] at H
 have c7b0 := eq_true c7
 have c7b1 := decide_eq_true c7
 try have c7b2 : (9223372036854775807 < a1.size + 1) = False := eq_false (Nat.not_lt.2 c7)
 obtain rfl := Option.some.inj H
 go_enter Tryd.func68, Tryd.ntmps68
 go_wp2
 go_ret
 exact ⟨by first | rfl | (simp; done) | (simp only [← hji4] <;> (first | rfl | simp)) | (simp [*]; done), dR_⟩}
 {
 rw [if_neg c7] at H
 exact absurd H (by simp)}}
 {
 rw [if_neg c6] at H
 exact absurd H (by simp)}}
 {
 rw [if_neg c5] at H
 exact absurd H (by simp)}}
 {
 rw [if_neg c3] at H
 have c3b0 : decide ((a1.size : Int) < (a0.size : Int)) = false := decide_eq_false c3
 have c3b1 : decide (a1.size < a0.size) = false := decide_eq_false (fun h => c3 (Int.ofNat_lt.mpr h))
 clear c3
 obtain rfl := Option.some.inj H
 go_enter Tryd.func68, Tryd.ntmps68
 go_wp2
 go_ret
 exact ⟨eS_, dR_⟩}
def spec_l10Full.l0 : Nat → List (S29) → ByteArray → Int → Option (Bool)
 | 0, _, _, _ => none
 | k + 1, x0, x1, x5 => if x5 < (x0.length : Int) then (if 0 ≤ x5 then ((spec_l10Under.f ((rd_T29 x0 x5).f0) x1).bind fun t304 => (if t304 = true then (some true) else (spec_l10Full.l0 k x0 x1 (wrap64 (x5 + 1))))) else (none)) else (some false)
def spec_l10Full.f (k : Nat) (l0 : List (S29)) (a1 : ByteArray) : Option (Bool) := spec_l10Full.l0 k l0 a1 0
theorem spec_l10Full.calls (k : Nat) (A0 : Option Addr) (c0 : Nat) (l0 : List (S29)) (a1 : ByteArray) (r : Bool) (w : World) (hr0 : Kd.C k29 w A0 l0.length l0) (hc0 : l0.length ≤ c0) (h : spec_l10Full.f k l0 a1 = some r) :
 Calls Tryd.prog 59 #[.slice A0 l0.length c0, .string a1] w fun e w' => e = .returned (.bool r) ∧ Drawn0 w w' := by
 have HR0 := Aside0.mk hr0
 have HC0 := Aside0.mk hc0
 clear hr0 hc0
 have H : (spec_l10Full.l0 k l0 a1 0) = some r := h
 clear h
 have H' := Aside0.mk H
 clear H
 go_enter Tryd.func59, Tryd.ntmps59
 go_wp2
 go_loopg [5] k (fun kq v5 w' => ∃ (x5_1 : Int), v5 = .int .i64 x5_1 ∧ Aside0 (spec_l10Full.l0 kq l0 a1 x5_1 = some r) ∧ Aside0 (kq ≤ k) ∧ Drawn0 w w')
 case atStart => exact ⟨(0), (by first | rfl | (simp; done) | (simp [*]; done)), H', ⟨Nat.le_refl _⟩, dR_⟩
 case round =>
  clear H'
  try clear p2
  obtain ⟨x5_1, rfl, HA, HK1, ⟨m1, rfl⟩⟩ := hrel
  cases gk with
  | zero => exact absurd HA.out (by simp [spec_l10Full.l0])
  | succ k1 =>
   have H := HA.out
   clear HA
   simp only [spec_l10Full.l0] at H
   by_cases c3 : x5_1 < (l0.length : Int)
   {
   rw [if_pos c3] at H
   have c3b0 := decide_eq_true c3
   clear c3
   by_cases c4 : 0 ≤ x5_1
   {
   rw [if_pos c4] at H
   have c4b0 := decide_eq_true c4
   clear c4
   replace H := Option.bind_eq_some_iff.mp H
   obtain ⟨t304, A50, H⟩ := H
   have A5 := Aside0.mk A50
   clear A50
   by_cases c6 : t304 = true
   {
   subst c6
   rw [if_pos rfl] at H
   obtain rfl := Option.some.inj H
   have p303 : 0 ≤ (x5_1 : Int) := dA_
   have q303 : x5_1 < (l0.length : Int) := dA_
   obtain ⟨ad303, e303, hx303_0, hx303_1, hx303_2, hx303_3⟩ := at_T29 HR0.out x5_1 p303 q303
   cases e303
   replace p303 := eq_true p303
   replace q303 := eq_true q303
   go_wp2_with (first | ((with_reducible refine gate_callee (f := 68) rfl ?_); refine gL_ (some 18) Tryd.func68 #[.string ((rd_T29 l0 x5_1).f0), .string a1] ?_; (with_reducible refine (spec_l10Under.calls ((rd_T29 l0 x5_1).f0) a1 true _ A5.out).mono ?_); rintro e w' ⟨rfl, ⟨nd, rfl⟩⟩; refine ⟨_, rfl, ?_⟩))
   go_ret
   exact ⟨eS_, dR_⟩}
   {
   replace c6 := Bool.eq_false_iff.mpr c6
   subst c6
   rw [if_neg (show ¬ (false = true) by decide)] at H
   have H' := Aside0.mk H
   clear H
   have p303 : 0 ≤ (x5_1 : Int) := dA_
   have q303 : x5_1 < (l0.length : Int) := dA_
   obtain ⟨ad303, e303, hx303_0, hx303_1, hx303_2, hx303_3⟩ := at_T29 HR0.out x5_1 p303 q303
   cases e303
   replace p303 := eq_true p303
   replace q303 := eq_true q303
   go_wp2_with (first | ((with_reducible refine gate_callee (f := 68) rfl ?_); refine gL_ (some 18) Tryd.func68 #[.string ((rd_T29 l0 x5_1).f0), .string a1] ?_; (with_reducible refine (spec_l10Under.calls ((rd_T29 l0 x5_1).f0) a1 false _ A5.out).mono ?_); rintro e w' ⟨rfl, ⟨nd, rfl⟩⟩; refine ⟨_, rfl, ?_⟩))
   go_roundg k1
   case measure => have := HK1.out; omega
   case rel => exact ⟨(wrap64 (x5_1 + 1)), (by first | rfl | (simp; done) | (simp [*]; done)), H', ⟨by have := HK1.out; omega⟩, dR_⟩}}
   {
   rw [if_neg c4] at H
   exact absurd H (by simp)}}
   {
   rw [if_neg c3] at H
   have c3b0 := decide_eq_false c3
   clear c3
   obtain rfl := Option.some.inj H
   go_wp2
   go_ret
   exact ⟨eS_, dR_⟩}
def spec_l10Copy.f (l0 : List (S29)) : Option ((List (S29))) := (some (([] : List (S29)) : List (S29))).bind fun y305 => (if y305.length + l0.length < 2932031007402 then (some (y305 ++ l0)) else (none))
theorem spec_l10Copy.calls (A0 : Option Addr) (c0 : Nat) (l0 : List (S29)) (r : List (S29)) (w : World) (hr0 : Kd.C k29 w A0 l0.length l0) (hc0 : l0.length ≤ c0) (h : spec_l10Copy.f l0 = some r) :
 Calls Tryd.prog 60 #[.slice A0 l0.length c0] w fun e w' => ∃ v0_ : Value, e = .returned (v0_) ∧ Kd.R k29 29 w' w.heap.size (fun _ => True) v0_ r ∧ Below w.heap.size w w' := by
 have HR0 := Aside0.mk hr0
 have HC0 := Aside0.mk hc0
 clear hr0 hc0
 have HB := Aside0.mk (Below.refl w.heap.size w)
 have H : ((some (([] : List (S29)) : List (S29))).bind fun y305 => (if y305.length + l0.length < 2932031007402 then (some (y305 ++ l0)) else (none))) = some r := h
 clear h
 obtain ⟨y305, hy305⟩ : ∃ y_ : List (S29), y_ = (([] : List (S29))) := ⟨_, rfl⟩
 replace H : (if y305.length + l0.length < 2932031007402 then (some (y305 ++ l0)) else (none)) = some r := rH_ hy305 H
 have Ny305 := Aside0.mk hy305
 clear hy305
 by_cases c2 : y305.length + l0.length < 2932031007402
 {
 rw [if_pos c2] at H
 have LMc2 := Aside0.mk c2
 clear c2
 obtain ⟨y308, hy308⟩ : ∃ y_ : List (S29), y_ = (y305 ++ l0) := ⟨_, rfl⟩
 replace H : (some y308) = some r := rH_ hy308 H
 have Ny308 := Aside0.mk hy308
 clear hy308
 obtain rfl := Option.some.inj H
 go_enter Tryd.func60, Tryd.ntmps60
 go_wp2_with (first | ((with_reducible refine gate_dst (N := 3) rfl ?_); refine Kd.R_lit k29 _ 29 ?hg (N := 3) ?hd (xs := ([] : List (S29))) (inner := []) (ok := fun _ => True) (okp := fun _ => True) ?hr ?hp (fun _ hk => hk) trivial (Below.refl _ _) (Nat.le_refl _) (by simp) ?_; (case hd => rfl); (case hg => rfl); (case hr => first | (go_simp; done) | (go_simp; rfl)); (case hp => exact (Reps.none _ _)); intro v306 w3 ho4 hb hg_ hnew_; clear hg_ hnew_; (first | rw [← Ny305.out] at ho4 | (simp only [Int.reduceToNat] at ho4; rw [← Ny305.out] at ho4)); have HO307 := Aside0.mk (Kd.R_lower ho4 (below_size (bw_ HB))); replace HB := Aside0.mk (below_step (bw_ HB) hb); clear hb ho4) | ((with_reducible refine gate_builtin (b := .append) (xs := #[.tmp 3, .tmp 4]) rfl ?_); at_builtin; refine Kd.R_append_rows k29 (w0 := w) w.heap.size rfl (.tmp 3) (.tmp 4) 24 29 (.agg #[(.string ⟨#[]⟩), (.int .i64 0), (.string ⟨#[]⟩), (.bool false)]) 48 rfl Tryd.underlying24 info29 rfl (by decide) (by omega) v306 y305 l0 _ _ _ (fun _ => True) (fun _ => False) rfl rfl ?aO ?aR (fun _ _ h => h) (fun _ h => h.elim) ?aF ?aB ?aS ?aL ?_; (case aR => exact cS_ HR0 HB); (case aB => exact (bw_ HB)); (case aF => exact (fun _ _ => trivial)); (case aO => exact (kr_ HO307)); (case aS => exact (below_size (bw_ HB))); (case aL => have := LMc2.out; omega); intro v309 w5 ho hb hg hat; rw [← Ny308.out] at ho; replace HB := Aside0.mk (hb); have HO310 := Aside0.mk (ho); clear HO307; clear ho hb hg hat))
 go_ret
 exact ⟨_, eR_, kr_ HO310, bw_ HB⟩}
 {
 rw [if_neg c2] at H
 exact absurd H (by simp)
}
end Go.Proofs.YtjnmcgeahomkeaaDoor.P
end
