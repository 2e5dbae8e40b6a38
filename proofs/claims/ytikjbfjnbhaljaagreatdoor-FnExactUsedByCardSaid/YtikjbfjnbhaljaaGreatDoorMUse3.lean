/- Texts of Use, put together by program. -/
import Derived.Test.YtikjbfjnbhaljaaGreatDoorMUse2
import Derived.Test.YtikjbfjnbhaljaaGreatDoorProg
import Derived.Below
import Derived.Deep.Draws
import Derived.Deep.AppendLies
import Derived.Maps.AppendAt
import Derived.OwnWalk
import Derived.Laws.BytesArg
import Derived.Laws.MakeOwn
import Derived.Laws.OwnMore
import Derived.Deep.OwnRows
import Derived.Tactics
import Derived.Lib.ConvBytes
import Derived.Laws.Slices
import Derived.WalkKit
import Derived.KernelRfl
import Derived.RowKit3
import Derived.Deep.LoopGhost
import Derived.Deep.QuietTactic
import Derived.BigQuiet
import Derived.WideLaws
import Derived.Deep.DeepCutAuto
import Derived.Deep.CutBlock
import Derived.Deep.RegionHeld3
import Derived.Laws.Rows
import Derived.Lib.AppendStr
import Derived.ArgAppend
import Derived.Laws.IdiomCopy
import Derived.OrdersHeld
import Derived.Laws.BitsLemmas
import Derived.Lib.Overlaps
import Derived.Lib.AppendZerosOnto
import Derived.RowKit
import Derived.Test.YtikjbfjnbhaljaaGreatDoorMUse1

section
namespace Go.Proofs.YtikjbfjnbhaljaaGreatDoor.P
open Go.RowKit Go.Proofs.YtikjbfjnbhaljaaGreatDoorW.PrintWords Go.Proofs.YtikjbfjnbhaljaaGreatDoorW.PrintLast Go.Proofs.YtikjbfjnbhaljaaGreatDoorW.PrintMore Go.Proofs.YtikjbfjnbhaljaaGreatDoorM
attribute [local go_sem] max2_int min2_int max_two min_two max_three min_three max_four min_four
set_option linter.unusedVariables false
set_option linter.unusedSimpArgs false
set_option maxHeartbeats 8000000
set_option maxRecDepth 100000
def errW : Option Int → Value
 | none => .nilIface
 | some c => .iface 0 (.int .i64 c)
theorem errW_none : errW none = .nilIface := rfl
theorem errW_some (c : Int) : errW (some c) = .iface 0 (.int .i64 c) := rfl
theorem info5 : (Tryz.prog.info? 5).map (fun i => (i.zero, i.size, i.bytes)) = some (some (.int .u8 0), 1, 1) := by kernel_rfl
theorem info9 : (Tryz.prog.info? 9).map (fun i => (i.zero, i.size, i.bytes)) = some (some (.string ⟨#[]⟩), 1, 16) := by kernel_rfl
theorem info55 : (Tryz.prog.info? 55).map (fun i => (i.zero, i.size, i.bytes)) = some (some (.agg #[(.string ⟨#[]⟩), (.string ⟨#[]⟩), (.slice none 0 0), (.string ⟨#[]⟩), (.slice none 0 0)]), 5, 96) := by kernel_rfl
theorem info57 : (Tryz.prog.info? 57).map (fun i => (i.zero, i.size, i.bytes)) = some (some (.agg #[(.string ⟨#[]⟩), (.int .i64 0), (.string ⟨#[]⟩), (.bool false)]), 4, 48) := by kernel_rfl
structure S70 where
 f0 : ByteArray
 f1 : Int
 f2 : ByteArray
 f3 : Bool
def z70 : S70 := ⟨(⟨#[]⟩ : ByteArray), (0 : Int), (⟨#[]⟩ : ByteArray), false⟩
def k70 : Kd S70 := Kd.iso (Kd.pair Kd.string (Kd.pair (Kd.int .i64) (Kd.pair Kd.string Kd.bool))) (fun x : S70 => (x.f0, x.f1, x.f2, x.f3))
theorem k70_open {w : World} {x : S70} {cs : List Value} (h : k70.K w x cs) : cs = [.string x.f0, .int .i64 x.f1, .string x.f2, .bool x.f3] := by
 obtain ⟨_, _, rfl, rfl, ⟨_, _, rfl, rfl, ⟨_, _, rfl, rfl, rfl⟩⟩⟩ := h
 exact rfl
def rd_T70 (xs : List S70) (i : Int) : S70 := xs.getD i.toNat z70
theorem at_T70 {w : World} {A : Option Addr} {n : Nat} {xs : List S70} (h : Kd.C k70 w A n xs) (i : Int) (h0 : 0 ≤ i) (h1 : i < n) : ∃ ad , A = some ad ∧ w.cell? (ad.add (i.toNat * 4)) = some (.string (rd_T70 xs i).f0) ∧ w.cell? ⟨(ad.add (i.toNat * 4)).block, (ad.add (i.toNat * 4)).off + 1, none⟩ = some (.int .i64 (rd_T70 xs i).f1) ∧ w.cell? ⟨(ad.add (i.toNat * 4)).block, (ad.add (i.toNat * 4)).off + 2, none⟩ = some (.string (rd_T70 xs i).f2) ∧ w.cell? ⟨(ad.add (i.toNat * 4)).block, (ad.add (i.toNat * 4)).off + 3, none⟩ = some (.bool (rd_T70 xs i).f3) := by
 obtain ⟨ad, c, e, _, hK, hc0⟩ := Kd.C_get h z70 i h0 h1
 have hc : ∀ j u, c[j]? = some u → w.cell? (ad.add (i.toNat * 4 + j)) = some u := hc0
 obtain rfl := k70_open hK
 exact ⟨ad, e, hc 0 _ rfl, by rw [← add_field _ _ 1 (by omega)]; exact hc 1 _ rfl, by rw [← add_field _ _ 2 (by omega)]; exact hc 2 _ rfl, by rw [← add_field _ _ 3 (by omega)]; exact hc 3 _ rfl⟩
structure S52 where
 f0 : ByteArray
 f1 : ByteArray
 f2 : (List ByteArray)
 f3 : ByteArray
 f4 : (List S70)
def z52 : S52 := ⟨(⟨#[]⟩ : ByteArray), (⟨#[]⟩ : ByteArray), ([] : List ByteArray), (⟨#[]⟩ : ByteArray), ([] : List S70)⟩
def k52 : Kd S52 := Kd.iso (Kd.pair Kd.string (Kd.pair Kd.string (Kd.pair (Kd.slice 9 Kd.string) (Kd.pair Kd.string (Kd.slice 70 k70))))) (fun x : S52 => (x.f0, x.f1, x.f2, x.f3, x.f4))
theorem k52_open {w : World} {x : S52} {cs : List Value} (h : k52.K w x cs) : ∃ A2 c2 A4 c4, cs = [.string x.f0, .string x.f1, .slice A2 x.f2.length c2, .string x.f3, .slice A4 x.f4.length c4] ∧ x.f2.length ≤ c2 ∧ Kd.string.C w A2 x.f2.length x.f2 ∧ x.f4.length ≤ c4 ∧ k70.C w A4 x.f4.length x.f4 := by
 obtain ⟨_, _, rfl, rfl, ⟨_, _, rfl, rfl, ⟨_, _, rfl, ⟨A2, c2, rfl, l2, g2⟩, ⟨_, _, rfl, rfl, ⟨A4, c4, rfl, l4, g4⟩⟩⟩⟩⟩ := h
 exact ⟨A2, c2, A4, c4, rfl, l2, g2, l4, g4⟩
def rd_T52 (xs : List S52) (i : Int) : S52 := xs.getD i.toNat z52
theorem at_T52 {w : World} {A : Option Addr} {n : Nat} {xs : List S52} (h : Kd.C k52 w A n xs) (i : Int) (h0 : 0 ≤ i) (h1 : i < n) : ∃ ad A2 c2 A4 c4, A = some ad ∧ w.cell? (ad.add (i.toNat * 5)) = some (.string (rd_T52 xs i).f0) ∧ w.cell? ⟨(ad.add (i.toNat * 5)).block, (ad.add (i.toNat * 5)).off + 1, none⟩ = some (.string (rd_T52 xs i).f1) ∧ w.cell? ⟨(ad.add (i.toNat * 5)).block, (ad.add (i.toNat * 5)).off + 2, none⟩ = some (.slice A2 (rd_T52 xs i).f2.length c2) ∧ w.cell? ⟨(ad.add (i.toNat * 5)).block, (ad.add (i.toNat * 5)).off + 3, none⟩ = some (.string (rd_T52 xs i).f3) ∧ w.cell? ⟨(ad.add (i.toNat * 5)).block, (ad.add (i.toNat * 5)).off + 4, none⟩ = some (.slice A4 (rd_T52 xs i).f4.length c4) ∧ (rd_T52 xs i).f2.length ≤ c2 ∧ Kd.string.C w A2 (rd_T52 xs i).f2.length (rd_T52 xs i).f2 ∧ (rd_T52 xs i).f4.length ≤ c4 ∧ k70.C w A4 (rd_T52 xs i).f4.length (rd_T52 xs i).f4 := by
 obtain ⟨ad, c, e, _, hK, hc0⟩ := Kd.C_get h z52 i h0 h1
 have hc : ∀ j u, c[j]? = some u → w.cell? (ad.add (i.toNat * 5 + j)) = some u := hc0
 obtain ⟨A2, c2, A4, c4, rfl, l2, g2, l4, g4⟩ := k52_open hK
 exact ⟨ad, A2, c2, A4, c4, e, hc 0 _ rfl, by rw [← add_field _ _ 1 (by omega)]; exact hc 1 _ rfl, by rw [← add_field _ _ 2 (by omega)]; exact hc 2 _ rfl, by rw [← add_field _ _ 3 (by omega)]; exact hc 3 _ rfl, by rw [← add_field _ _ 4 (by omega)]; exact hc 4 _ rfl, l2, g2, l4, g4⟩
structure S57 where
 f0 : ByteArray
 f1 : Int
 f2 : ByteArray
 f3 : Bool
def z57 : S57 := ⟨(⟨#[]⟩ : ByteArray), (0 : Int), (⟨#[]⟩ : ByteArray), false⟩
def k57 : Kd S57 := Kd.iso (Kd.pair Kd.string (Kd.pair (Kd.int .i64) (Kd.pair Kd.string Kd.bool))) (fun x : S57 => (x.f0, x.f1, x.f2, x.f3))
theorem k57_open {w : World} {x : S57} {cs : List Value} (h : k57.K w x cs) : cs = [.string x.f0, .int .i64 x.f1, .string x.f2, .bool x.f3] := by
 obtain ⟨_, _, rfl, rfl, ⟨_, _, rfl, rfl, ⟨_, _, rfl, rfl, rfl⟩⟩⟩ := h
 exact rfl
theorem k57_openM {w : World} {base : Nat} {ok : Nat → Prop} {x : S57} {cs : List Value} (h : k57.M w base ok x cs) : cs = [.string x.f0, .int .i64 x.f1, .string x.f2, .bool x.f3] := by
 obtain ⟨_, _, rfl, rfl, ⟨_, _, rfl, rfl, ⟨_, _, rfl, rfl, rfl⟩⟩⟩ := h
 exact rfl
theorem k57_mkM (w : World) (base : Nat) (ok : Nat → Prop) (x : S57)  : k57.M w base ok x [.string x.f0, .int .i64 x.f1, .string x.f2, .bool x.f3] := ⟨[.string x.f0], [.int .i64 x.f1, .string x.f2, .bool x.f3], rfl, rfl, ⟨[.int .i64 x.f1], [.string x.f2, .bool x.f3], rfl, rfl, ⟨[.string x.f2], [.bool x.f3], rfl, rfl, rfl⟩⟩⟩
def rd_T57 (xs : List S57) (i : Int) : S57 := xs.getD i.toNat z57
theorem at_T57 {w : World} {A : Option Addr} {n : Nat} {xs : List S57} (h : Kd.C k57 w A n xs) (i : Int) (h0 : 0 ≤ i) (h1 : i < n) : ∃ ad , A = some ad ∧ w.cell? (ad.add (i.toNat * 4)) = some (.string (rd_T57 xs i).f0) ∧ w.cell? ⟨(ad.add (i.toNat * 4)).block, (ad.add (i.toNat * 4)).off + 1, none⟩ = some (.int .i64 (rd_T57 xs i).f1) ∧ w.cell? ⟨(ad.add (i.toNat * 4)).block, (ad.add (i.toNat * 4)).off + 2, none⟩ = some (.string (rd_T57 xs i).f2) ∧ w.cell? ⟨(ad.add (i.toNat * 4)).block, (ad.add (i.toNat * 4)).off + 3, none⟩ = some (.bool (rd_T57 xs i).f3) := by
 obtain ⟨ad, c, e, _, hK, hc0⟩ := Kd.C_get h z57 i h0 h1
 have hc : ∀ j u, c[j]? = some u → w.cell? (ad.add (i.toNat * 4 + j)) = some u := hc0
 obtain rfl := k57_open hK
 exact ⟨ad, e, hc 0 _ rfl, by rw [← add_field _ _ 1 (by omega)]; exact hc 1 _ rfl, by rw [← add_field _ _ 2 (by omega)]; exact hc 2 _ rfl, by rw [← add_field _ _ 3 (by omega)]; exact hc 3 _ rfl⟩
structure S55 where
 f0 : ByteArray
 f1 : ByteArray
 f2 : (List ByteArray)
 f3 : ByteArray
 f4 : (List S57)
def z55 : S55 := ⟨(⟨#[]⟩ : ByteArray), (⟨#[]⟩ : ByteArray), ([] : List ByteArray), (⟨#[]⟩ : ByteArray), ([] : List S57)⟩
def k55 : Kd S55 := Kd.iso (Kd.pair Kd.string (Kd.pair Kd.string (Kd.pair (Kd.slice 9 Kd.string) (Kd.pair Kd.string (Kd.slice 57 k57))))) (fun x : S55 => (x.f0, x.f1, x.f2, x.f3, x.f4))
theorem k55_open {w : World} {x : S55} {cs : List Value} (h : k55.K w x cs) : ∃ A2 c2 A4 c4, cs = [.string x.f0, .string x.f1, .slice A2 x.f2.length c2, .string x.f3, .slice A4 x.f4.length c4] ∧ x.f2.length ≤ c2 ∧ Kd.string.C w A2 x.f2.length x.f2 ∧ x.f4.length ≤ c4 ∧ k57.C w A4 x.f4.length x.f4 := by
 obtain ⟨_, _, rfl, rfl, ⟨_, _, rfl, rfl, ⟨_, _, rfl, ⟨A2, c2, rfl, l2, g2⟩, ⟨_, _, rfl, rfl, ⟨A4, c4, rfl, l4, g4⟩⟩⟩⟩⟩ := h
 exact ⟨A2, c2, A4, c4, rfl, l2, g2, l4, g4⟩
theorem k55_openM {w : World} {base : Nat} {ok : Nat → Prop} {x : S55} {cs : List Value} (h : k55.M w base ok x cs) : ∃ v2 v4, cs = [.string x.f0, .string x.f1, v2, .string x.f3, v4] ∧ Kd.string.R 9 w base ok v2 x.f2 ∧ k57.R 57 w base ok v4 x.f4 := by
 obtain ⟨_, _, rfl, rfl, ⟨_, _, rfl, rfl, ⟨_, _, rfl, ⟨v2, rfl, g2⟩, ⟨_, _, rfl, rfl, ⟨v4, rfl, g4⟩⟩⟩⟩⟩ := h
 exact ⟨v2, v4, rfl, g2, g4⟩
theorem k55_mkM (w : World) (base : Nat) (ok : Nat → Prop) (x : S55) {v2 : Value} (g2 : Kd.string.R 9 w base ok v2 x.f2) {v4 : Value} (g4 : k57.R 57 w base ok v4 x.f4) : k55.M w base ok x [.string x.f0, .string x.f1, v2, .string x.f3, v4] := ⟨[.string x.f0], [.string x.f1, v2, .string x.f3, v4], rfl, rfl, ⟨[.string x.f1], [v2, .string x.f3, v4], rfl, rfl, ⟨[v2], [.string x.f3, v4], rfl, ⟨v2, rfl, g2⟩, ⟨[.string x.f3], [v4], rfl, rfl, ⟨v4, rfl, g4⟩⟩⟩⟩⟩
def rd_T55 (xs : List S55) (i : Int) : S55 := xs.getD i.toNat z55
theorem at_T55 {w : World} {A : Option Addr} {n : Nat} {xs : List S55} (h : Kd.C k55 w A n xs) (i : Int) (h0 : 0 ≤ i) (h1 : i < n) : ∃ ad A2 c2 A4 c4, A = some ad ∧ w.cell? (ad.add (i.toNat * 5)) = some (.string (rd_T55 xs i).f0) ∧ w.cell? ⟨(ad.add (i.toNat * 5)).block, (ad.add (i.toNat * 5)).off + 1, none⟩ = some (.string (rd_T55 xs i).f1) ∧ w.cell? ⟨(ad.add (i.toNat * 5)).block, (ad.add (i.toNat * 5)).off + 2, none⟩ = some (.slice A2 (rd_T55 xs i).f2.length c2) ∧ w.cell? ⟨(ad.add (i.toNat * 5)).block, (ad.add (i.toNat * 5)).off + 3, none⟩ = some (.string (rd_T55 xs i).f3) ∧ w.cell? ⟨(ad.add (i.toNat * 5)).block, (ad.add (i.toNat * 5)).off + 4, none⟩ = some (.slice A4 (rd_T55 xs i).f4.length c4) ∧ (rd_T55 xs i).f2.length ≤ c2 ∧ Kd.string.C w A2 (rd_T55 xs i).f2.length (rd_T55 xs i).f2 ∧ (rd_T55 xs i).f4.length ≤ c4 ∧ k57.C w A4 (rd_T55 xs i).f4.length (rd_T55 xs i).f4 := by
 obtain ⟨ad, c, e, _, hK, hc0⟩ := Kd.C_get h z55 i h0 h1
 have hc : ∀ j u, c[j]? = some u → w.cell? (ad.add (i.toNat * 5 + j)) = some u := hc0
 obtain ⟨A2, c2, A4, c4, rfl, l2, g2, l4, g4⟩ := k55_open hK
 exact ⟨ad, A2, c2, A4, c4, e, hc 0 _ rfl, by rw [← add_field _ _ 1 (by omega)]; exact hc 1 _ rfl, by rw [← add_field _ _ 2 (by omega)]; exact hc 2 _ rfl, by rw [← add_field _ _ 3 (by omega)]; exact hc 3 _ rfl, by rw [← add_field _ _ 4 (by omega)]; exact hc 4 _ rfl, l2, g2, l4, g4⟩
def impl_storePaths.l0 : Nat → List ByteArray → List (S55) → Int → Int → Option (List ByteArray)
 | 0, _, _, _, _ => none
 | k + 1, x3, x7, x8, x9 => if x9 < x8 then (if 0 ≤ x9 then (if x9 < (x7.length : Int) then (if x3.length < 8796093022208 then (impl_storePaths.l0 k (x3 ++ [(rd_T55 x7 x9).f0]) x7 x8 (wrap64 (x9 + 1))) else (none)) else (none)) else (none)) else (some x3)
def impl_storePaths.f (k : Nat) (l0 : List (S55)) : Option (List ByteArray) := impl_storePaths.l0 k (([] : List ByteArray)) l0 (l0.length : Int) 0
theorem impl_storePaths.mono_l : ∀ k, (∀ y0 y1 y2 y3, LeO (impl_storePaths.l0 k y0 y1 y2 y3) (impl_storePaths.l0 (k + 1) y0 y1 y2 y3))
 | 0 => fun _ _ _ _ r h => by simp [impl_storePaths.l0] at h
 | k + 1 => by
      have ih0 := impl_storePaths.mono_l k
      {
      intro y0 y1 y2 y3
      unfold impl_storePaths.l0
      repeat' first
      | (with_reducible exact ih0 _ _ _ _)
      | (with_reducible exact LeO.refl _)
      | (with_reducible exact LeO.none _)
      | (with_reducible refine LeO.ite ?_ ?_)
      | (with_reducible refine LeO.bind ?_ (fun _ => ?_))
      | exact ih0 _ _ _ _
      | exact LeO.none _
      | refine LeO.ite ?_ ?_
      | refine LeO.bind ?_ (fun _ => ?_)}
theorem impl_storePaths.mono : ∀ a0 k, LeO (impl_storePaths.f k a0) (impl_storePaths.f (k + 1) a0) := by
 intro a0 k
 have ih0 := impl_storePaths.mono_l k
 unfold impl_storePaths.f
 repeat' first
  | (with_reducible exact ih0 _ _ _ _)
  | (with_reducible exact LeO.refl _)
  | (with_reducible exact LeO.none _)
  | (with_reducible refine LeO.ite ?_ ?_)
  | (with_reducible refine LeO.bind ?_ (fun _ => ?_))
  | exact ih0 _ _ _ _
  | exact LeO.none _
  | refine LeO.ite ?_ ?_
  | refine LeO.bind ?_ (fun _ => ?_)
theorem impl_storePaths.calls (k : Nat) (A0 : Option Addr) (c0 : Nat) (l0 : List (S55)) (r : List ByteArray) (w : World) (hr0 : Kd.C k55 w A0 l0.length l0) (hc0 : l0.length ≤ c0) (h : impl_storePaths.f k l0 = some r) :
 Calls Tryz.prog 53 #[.slice A0 l0.length c0] w fun e w' => ∃ v0_ : Value, e = .returned (v0_) ∧ Kd.R Kd.string 9 w' w.heap.size (fun _ => True) v0_ r ∧ Below w.heap.size w w' := by
 have hu55 := Tryz.underlying55
 have HR0 := Aside0.mk hr0
 have HC0 := Aside0.mk hc0
 clear hr0 hc0
 have HB := Aside0.mk (Below.refl w.heap.size w)
 have H : (impl_storePaths.l0 k (([] : List ByteArray)) l0 (l0.length : Int) 0) = some r := h
 clear h
 obtain ⟨y342, hy342⟩ : ∃ y_ : List ByteArray, y_ = (([] : List ByteArray)) := ⟨_, rfl⟩
 replace H : (impl_storePaths.l0 k y342 l0 (l0.length : Int) 0) = some r := rH_ hy342 H
 have Ny342 := Aside0.mk hy342
 clear hy342
 have H' := Aside0.mk H
 clear H
 go_enter Tryz.func53, Tryz.ntmps53
 go_wp2_with (first | ((with_reducible refine gate_dst (N := 6) rfl ?_); refine Kd.R_lit Kd.string _ 9 ?hg (N := 6) ?hd (xs := ([] : List ByteArray)) (inner := []) (ok := fun _ => True) (okp := fun _ => True) ?hr ?hp (fun _ hk => hk) trivial (Below.refl _ _) (Nat.le_refl _) (by simp) ?_; (case hd => rfl); (case hg => rfl); (case hr => first | (go_simp; done) | (go_simp; rfl)); (case hp => exact (Reps.none _ _)); intro v343 w2 ho3 hb hg_ hnew_; clear hg_ hnew_; (first | rw [← Ny342.out] at ho3 | (simp only [Int.reduceToNat] at ho3; rw [← Ny342.out] at ho3)); have HO344 := Aside0.mk (Kd.R_lower ho3 (below_size (bw_ HB))); replace HB := Aside0.mk (below_step (bw_ HB) hb); clear hb ho3))
 go_loopg [3, 9] k (fun kq v3 v9 w' => ∃ (x3_1 : List ByteArray) (x9_1 : Int), v9 = .int .i64 x9_1 ∧ Aside0 (impl_storePaths.l0 kq x3_1 l0 (l0.length : Int) x9_1 = some r) ∧ Aside0 (kq ≤ k) ∧ Aside0 (Kd.R Kd.string 9 w' w.heap.size (fun _ => True) v3 x3_1) ∧ Aside0 (Below w.heap.size w w'))
 case atStart => exact ⟨(y342), (0), (by first | rfl | (simp; done) | (simp [*]; done)), H', ⟨Nat.le_refl _⟩, ⟨kr_ HO344⟩, ⟨bw_ HB⟩⟩
 case round =>
  clear H'
  try clear p2
  obtain ⟨x3_1, x9_1, rfl, HA, HK1, HO_3, HB⟩ := hrel
  cases gk with
  | zero => exact absurd HA.out (by simp [impl_storePaths.l0])
  | succ k1 =>
       have H := HA.out
       clear HA
       simp only [impl_storePaths.l0] at H
       by_cases c4 : x9_1 < (l0.length : Int)
       {
       rw [if_pos c4] at H
       have c4b0 := decide_eq_true c4
       clear c4
       by_cases c5 : 0 ≤ x9_1
       {
       rw [if_pos c5] at H
       have c5b0 := decide_eq_true c5
       clear c5
       by_cases c6 : x9_1 < (l0.length : Int)
       {
       rw [if_pos c6] at H
       have c6b0 := decide_eq_true c6
       clear c6
       by_cases c7 : x3_1.length < 8796093022208
       {
       rw [if_pos c7] at H
       have LMc7 := Aside0.mk c7
       clear c7
       obtain ⟨y347, hy347⟩ : ∃ y_ : List ByteArray, y_ = (x3_1 ++ [(rd_T55 l0 x9_1).f0]) := ⟨_, rfl⟩
       replace H : (impl_storePaths.l0 k1 y347 l0 (l0.length : Int) (wrap64 (x9_1 + 1))) = some r := rH_ hy347 H
       have Ny347 := Aside0.mk hy347
       clear hy347
       have H' := Aside0.mk H
       clear H
       have p345 : 0 ≤ (x9_1 : Int) := dA_
       have q345 : x9_1 < (l0.length : Int) := dA_
       obtain ⟨ad345, A345_2, c345_2, A345_4, c345_4, e345, hx345_0, hx345_1, hx345_2, hx345_3, hx345_4, hl345_2, hi345_2, hl345_4, hi345_4⟩ := at_T55 HR0.out x9_1 p345 q345
       cases e345
       replace hx345_0 := hX_ HB hx345_0
       replace hx345_1 := hX_ HB hx345_1
       replace hx345_2 := hX_ HB hx345_2
       replace hx345_3 := hX_ HB hx345_3
       replace hx345_4 := hX_ HB hx345_4
       have HR345_2 := Aside0.mk hi345_2
       have HC345_2 := Aside0.mk hl345_2
       clear hi345_2 hl345_2
       have HR345_4 := Aside0.mk hi345_4
       have HC345_4 := Aside0.mk hl345_4
       clear hi345_4 hl345_4
       replace p345 := eq_true p345
       replace q345 := eq_true q345
       go_wp2_with (first | ((with_reducible refine gate_dst (N := 5) rfl ?_); refine bE_ 5 #[.string (⟨#[]⟩ : ByteArray), .string (⟨#[]⟩ : ByteArray), .slice none 0 0, .string (⟨#[]⟩ : ByteArray), .slice none 0 0] 55 ?_; intro gb346 hg w8 hbox hb; replace HO_3 := Aside0.mk (Kd.R_below (kr_ HO_3) hb); have BK346 := Aside0.mk (hbox); have GW346 := Aside0.mk (ge_ hg (bw_ HB)); have GE346 := Aside0.mk (ge_ hg (bw_ HB)); replace HB := Aside0.mk (below_step (bw_ HB) hb); clear hb hbox hg; have hcz9_0 := cz_ BK346 0 (.string (⟨#[]⟩ : ByteArray)); have hcz9_1 := cz_ BK346 1 (.string (⟨#[]⟩ : ByteArray)); have hcz9_2 := cz_ BK346 2 (.slice none 0 0); have hcz9_3 := cz_ BK346 3 (.string (⟨#[]⟩ : ByteArray)); have hcz9_4 := cz_ BK346 4 (.slice none 0 0); have hfz9_0 := blk_frozen BK346.out 0; have hfz9_1 := blk_frozen BK346.out 1; have hfz9_2 := blk_frozen BK346.out 2; have hfz9_3 := blk_frozen BK346.out 3; have hfz9_4 := blk_frozen BK346.out 4) | ((with_reducible refine gate_builtin (b := .append) (xs := #[.tmp 13, .tmp 16]) rfl ?_); at_builtin; refine Kd.R_append Kd.string (w0 := w) w.heap.size rfl (.tmp 13) (.tmp 16) 29 9 (.string ⟨#[]⟩) 16 rfl Tryz.underlying29 info9 rfl (by decide) (by omega) u3 x3_1 ((rd_T55 l0 x9_1).f0) [.string ((rd_T55 l0 x9_1).f0)] (fun _ => True) (fun _ => False) rfl (by first | (go_simp; done) | (go_simp; rfl)) ?aP (fun _ hk => hk.elim) ?aF ?aO ?aB ?aS ?aL ?_; (case aP => exact rfl); (case aB => exact (bw1_ HB GE346)); (case aF => exact (fun _ _ => trivial)); (case aO => exact (by (with_reducible repeat (first | apply Kd.R_alloc | apply Kd.R_drewN | apply Kd.R_drew)); exact Kd.R_mono (Kd.R_far (p := ⟨gb346, 4, none⟩) (Kd.R_far (p := ⟨gb346, 3, none⟩) (Kd.R_far (p := ⟨gb346, 2, none⟩) (Kd.R_far (p := ⟨gb346, 1, none⟩) (Kd.R_far (p := ⟨gb346, 0, none⟩) (Kd.R_types HO_3.out BK346.out (by decide)) (fun _ hk => hk.2) (.string ((rd_T55 l0 x9_1).f0))) (fun _ hk => hk.2) (.string ((rd_T55 l0 x9_1).f1))) (fun _ hk => hk.2) (.slice A345_2 ((rd_T55 l0 x9_1).f2).length c345_2)) (fun _ hk => hk.2) (.string ((rd_T55 l0 x9_1).f3))) (fun _ hk => hk.2) (.slice A345_4 ((rd_T55 l0 x9_1).f4).length c345_4)) (fun _ hk => trivial))); (case aS => exact (below_size (bw1_ HB GE346))); (case aL => have := LMc7.out; omega); intro v348 w10 ho hb hg hat; rw [← Ny347.out] at ho; replace BK346 := Aside0.mk (blk_grown (g := gb346) (o := .cells #[.string ((rd_T55 l0 x9_1).f0), .string ((rd_T55 l0 x9_1).f1), .slice A345_2 ((rd_T55 l0 x9_1).f2).length c345_2, .string ((rd_T55 l0 x9_1).f3), .slice A345_4 ((rd_T55 l0 x9_1).f4).length c345_4] 55 (0, 0)) (by (with_reducible repeat (first | refine blk_drewN ?_ _ | refine blk_drew ?_ | refine blk_alloc ?_ _)); refine blk_put (cs := #[.string ((rd_T55 l0 x9_1).f0), .string ((rd_T55 l0 x9_1).f1), .slice A345_2 ((rd_T55 l0 x9_1).f2).length c345_2, .string ((rd_T55 l0 x9_1).f3), .slice none 0 0]) ?_ 4 _ rfl; (with_reducible repeat (first | refine blk_drewN ?_ _ | refine blk_drew ?_ | refine blk_alloc ?_ _)); refine blk_put (cs := #[.string ((rd_T55 l0 x9_1).f0), .string ((rd_T55 l0 x9_1).f1), .slice A345_2 ((rd_T55 l0 x9_1).f2).length c345_2, .string (⟨#[]⟩ : ByteArray), .slice none 0 0]) ?_ 3 _ rfl; (with_reducible repeat (first | refine blk_drewN ?_ _ | refine blk_drew ?_ | refine blk_alloc ?_ _)); refine blk_put (cs := #[.string ((rd_T55 l0 x9_1).f0), .string ((rd_T55 l0 x9_1).f1), .slice none 0 0, .string (⟨#[]⟩ : ByteArray), .slice none 0 0]) ?_ 2 _ rfl; (with_reducible repeat (first | refine blk_drewN ?_ _ | refine blk_drew ?_ | refine blk_alloc ?_ _)); refine blk_put (cs := #[.string ((rd_T55 l0 x9_1).f0), .string (⟨#[]⟩ : ByteArray), .slice none 0 0, .string (⟨#[]⟩ : ByteArray), .slice none 0 0]) ?_ 1 _ rfl; (with_reducible repeat (first | refine blk_drewN ?_ _ | refine blk_drew ?_ | refine blk_alloc ?_ _)); refine blk_put (cs := #[.string (⟨#[]⟩ : ByteArray), .string (⟨#[]⟩ : ByteArray), .slice none 0 0, .string (⟨#[]⟩ : ByteArray), .slice none 0 0]) ?_ 0 _ rfl; (with_reducible repeat (first | refine blk_drewN ?_ _ | refine blk_drew ?_ | refine blk_alloc ?_ _)); exact BK346.out) hg (Kd.R_ne HO_3.out BK346.out (by decide))); replace HB := Aside0.mk (hb); have HO349 := Aside0.mk (ho); clear HO_3; clear ho hb hg hat))
       go_roundg k1
       case measure => have := HK1.out; omega
       case rel => exact ⟨(y347), (wrap64 (x9_1 + 1)), (by first | rfl | (simp; done) | (simp [*]; done)), H', ⟨by have := HK1.out; omega⟩, ⟨kr_ HO349⟩, ⟨bw1_ HB GE346⟩⟩}
       {
       rw [if_neg c7] at H
       exact absurd H (by simp)}}
       {
       rw [if_neg c6] at H
       exact absurd H (by simp)}}
       {
       rw [if_neg c5] at H
       exact absurd H (by simp)}}
       {
       rw [if_neg c4] at H
       have c4b0 := decide_eq_false c4
       (try (have c4b0' := c4b0; simp only [hl345_4] at c4b0'))
       clear c4
       obtain rfl := Option.some.inj H
       go_wp2
       go_ret
       exact ⟨_, eR_, kr_ HO_3, bw_ HB⟩
}
def impl_rising_hs.l0 : Nat → List ByteArray → Int → Option (Bool)
 | 0, _, _ => none
 | k + 1, x0, x3 => if x3 < (x0.length : Int) then (if 0 ≤ (wrap64 (x3 - 1)) then (if (wrap64 (x3 - 1)) < (x0.length : Int) then (if 0 ≤ x3 then (if ((Op.bytesLess ((rdOf ByteArray.empty x0 (wrap64 (x3 - 1))).toList) ((rdOf ByteArray.empty x0 x3).toList)) = true) then (impl_rising_hs.l0 k x0 (wrap64 (x3 + 1))) else (some false)) else (none)) else (none)) else (none)) else (some true)
def impl_rising_hs.f (k : Nat) (l0 : List ByteArray) : Option (Bool) := impl_rising_hs.l0 k l0 1
theorem impl_rising_hs.mono_l : ∀ k, (∀ y0 y1, LeO (impl_rising_hs.l0 k y0 y1) (impl_rising_hs.l0 (k + 1) y0 y1))
 | 0 => fun _ _ r h => by simp [impl_rising_hs.l0] at h
 | k + 1 => by
      have ih0 := impl_rising_hs.mono_l k
      {
      intro y0 y1
      unfold impl_rising_hs.l0
      repeat' first
      | (with_reducible exact ih0 _ _)
      | (with_reducible exact LeO.refl _)
      | (with_reducible exact LeO.none _)
      | (with_reducible refine LeO.ite ?_ ?_)
      | (with_reducible refine LeO.bind ?_ (fun _ => ?_))
      | exact ih0 _ _
      | exact LeO.none _
      | refine LeO.ite ?_ ?_
      | refine LeO.bind ?_ (fun _ => ?_)}
theorem impl_rising_hs.mono : ∀ a0 k, LeO (impl_rising_hs.f k a0) (impl_rising_hs.f (k + 1) a0) := by
 intro a0 k
 have ih0 := impl_rising_hs.mono_l k
 unfold impl_rising_hs.f
 repeat' first
  | (with_reducible exact ih0 _ _)
  | (with_reducible exact LeO.refl _)
  | (with_reducible exact LeO.none _)
  | (with_reducible refine LeO.ite ?_ ?_)
  | (with_reducible refine LeO.bind ?_ (fun _ => ?_))
  | exact ih0 _ _
  | exact LeO.none _
  | refine LeO.ite ?_ ?_
  | refine LeO.bind ?_ (fun _ => ?_)
theorem impl_rising_hs.calls (k : Nat) (A0 : Option Addr) (c0 : Nat) (l0 : List ByteArray) (r : Bool) (w : World) (hr0 : Kd.C Kd.string w A0 l0.length l0) (hc0 : l0.length ≤ c0) (h : impl_rising_hs.f k l0 = some r) :
 Calls Tryz.prog 65 #[.slice A0 l0.length c0] w fun e w' => e = .returned (.bool r) ∧ Drawn0 w w' := by
 have HR0 := Aside0.mk hr0
 have HC0 := Aside0.mk hc0
 clear hr0 hc0
 have H : (impl_rising_hs.l0 k l0 1) = some r := h
 clear h
 have H' := Aside0.mk H
 clear H
 go_enter Tryz.func65, Tryz.ntmps65
 go_wp2
 repeat (go_quiet (fail); try go_wp2)
 go_loopg [3] k (fun kq v3 w' => ∃ (x3_1 : Int), v3 = .int .i64 x3_1 ∧ Aside0 (impl_rising_hs.l0 kq l0 x3_1 = some r) ∧ Aside0 (kq ≤ k) ∧ Drawn0 w w')
 case atStart => exact ⟨(1), (by first | rfl | (simp; done) | (simp [*]; done)), H', ⟨Nat.le_refl _⟩, dR_⟩
 case round =>
  clear H'
  obtain ⟨x3_1, rfl, HA, HK1, ⟨m1, rfl⟩⟩ := hrel
  cases gk with
  | zero => exact absurd HA.out (by simp [impl_rising_hs.l0])
  | succ k1 =>
       have H := HA.out
       clear HA
       simp only [impl_rising_hs.l0] at H
       by_cases c2 : x3_1 < (l0.length : Int)
       {
       rw [if_pos c2] at H
       have c2b0 := decide_eq_true c2
       clear c2
       obtain ⟨ji3, hji3⟩ : ∃ j_ : Int, (wrap64 (x3_1 - 1)) = j_ := ⟨_, rfl⟩
       replace H : (if 0 ≤ (ji3) then (if (ji3) < (l0.length : Int) then (if 0 ≤ x3_1 then (if ((Op.bytesLess ((rdOf ByteArray.empty l0 (ji3)).toList) ((rdOf ByteArray.empty l0 x3_1).toList)) = true) then (impl_rising_hs.l0 k1 l0 (wrap64 (x3_1 + 1))) else (some false)) else (none)) else (none)) else (none)) = some r := by first | (rw [hji3] at H; exact H) | (simp only [hji3] at H ⊢; exact H)
       have hji3w : (IntKind.i64.wrap (x3_1 - 1)) = ji3 := (i64_w _).trans hji3
       by_cases c4 : 0 ≤ (ji3)
       {
       rw [if_pos c4] at H
       have c4b0 := decide_eq_true c4
       clear c4
       by_cases c5 : (ji3) < (l0.length : Int)
       {
       rw [if_pos c5] at H
       have c5b0 := decide_eq_true c5
       clear c5
       by_cases c6 : 0 ≤ x3_1
       {
       rw [if_pos c6] at H
       have c6b0 := decide_eq_true c6
       clear c6
       by_cases c7 : ((Op.bytesLess ((rdOf ByteArray.empty l0 (ji3)).toList) ((rdOf ByteArray.empty l0 x3_1).toList)) = true)
       {
       rw [if_pos c7] at H
       have c7b0 : (Op.bytesLess ((rdOf ByteArray.empty l0 (ji3)).toList) ((rdOf ByteArray.empty l0 x3_1).toList)) = true := c7
       clear c7
       have H' := Aside0.mk H
       clear H
       have p350 : 0 ≤ ((ji3) : Int) := dA_
       have q350 : (ji3) < (l0.length : Int) := dA_
       obtain ⟨ad350, e350, hx350_0⟩ := Kd.at_string HR0.out (ji3) p350 q350
       cases e350
       replace p350 := eq_true p350
       replace q350 := eq_true q350
       have p351 : 0 ≤ (x3_1 : Int) := dA_
       have q351 : x3_1 < (l0.length : Int) := dA_
       obtain ⟨ad351, e351, hx351_0⟩ := Kd.at_string HR0.out x3_1 p351 q351
       obtain rfl : ad350 = ad351 := (by injection e351)
       replace p351 := eq_true p351
       replace q351 := eq_true q351
       go_wp2
       repeat (go_quiet (fail); try go_wp2)
       go_roundg k1
       case measure => have := HK1.out; omega
       case rel => exact ⟨(wrap64 (x3_1 + 1)), (by first | rfl | (simp; done) | (simp [*]; done)), H', ⟨by have := HK1.out; omega⟩, dR_⟩}
       {
       rw [if_neg c7] at H
       have c7b0 : (Op.bytesLess ((rdOf ByteArray.empty l0 (ji3)).toList) ((rdOf ByteArray.empty l0 x3_1).toList)) = false := by simpa using c7
       clear c7
       obtain rfl := Option.some.inj H
       have p350 : 0 ≤ ((ji3) : Int) := dA_
       have q350 : (ji3) < (l0.length : Int) := dA_
       obtain ⟨ad350, e350, hx350_0⟩ := Kd.at_string HR0.out (ji3) p350 q350
       cases e350
       replace p350 := eq_true p350
       replace q350 := eq_true q350
       have p351 : 0 ≤ (x3_1 : Int) := dA_
       have q351 : x3_1 < (l0.length : Int) := dA_
       obtain ⟨ad351, e351, hx351_0⟩ := Kd.at_string HR0.out x3_1 p351 q351
       obtain rfl : ad350 = ad351 := (by injection e351)
       replace p351 := eq_true p351
       replace q351 := eq_true q351
       go_wp2
       repeat (go_quiet (fail); try go_wp2)
       go_ret
       exact ⟨by first | rfl | (simp; done) | (simp only [← hji3] <;> (first | rfl | simp)) | (simp [*]; done), dR_⟩}}
       {
       rw [if_neg c6] at H
       exact absurd H (by simp)}}
       {
       rw [if_neg c5] at H
       exact absurd H (by simp)}}
       {
       rw [if_neg c4] at H
       exact absurd H (by simp)}}
       {
       rw [if_neg c2] at H
       have c2b0 := decide_eq_false c2
       clear c2
       obtain rfl := Option.some.inj H
       go_wp2
       repeat (go_quiet (fail); try go_wp2)
       go_ret
       exact ⟨eS_, dR_⟩
}
def impl_letter.f (a0 : Int) : Option (Bool) := if a0 ≥ 97 then (if a0 ≤ 122 then (some true) else (if a0 ≥ 65 then (some (decide (a0 ≤ 90))) else (some false))) else (if a0 ≥ 65 then (some (decide (a0 ≤ 90))) else (some false))
theorem impl_letter.calls (a0 : Int) (r : Bool) (w : World) (h : impl_letter.f a0 = some r) :
 Calls Tryz.prog 105 #[.int .u8 a0] w fun e w' => e = .returned (.bool r) ∧ Drawn0 w w' := by
 have H : (if a0 ≥ 97 then (if a0 ≤ 122 then (some true) else (if a0 ≥ 65 then (some (decide (a0 ≤ 90))) else (some false))) else (if a0 ≥ 65 then (some (decide (a0 ≤ 90))) else (some false))) = some r := h
 clear h
 by_cases c2 : a0 ≥ 97
 {
 rw [if_pos c2] at H
 have c2b0 : decide (97 ≤ a0) = true := decide_eq_true c2
 clear c2
 by_cases c3 : a0 ≤ 122
 {
 rw [if_pos c3] at H
 have c3b0 := decide_eq_true c3
 clear c3
 obtain rfl := Option.some.inj H
 go_enter Tryz.func105, Tryz.ntmps105
 go_wp2
 go_ret
 exact ⟨eS_, dR_⟩}
 {
 rw [if_neg c3] at H
 have c3b0 := decide_eq_false c3
 clear c3
 by_cases c4 : a0 ≥ 65
 {
 rw [if_pos c4] at H
 have c4b0 : decide (65 ≤ a0) = true := decide_eq_true c4
 clear c4
 obtain rfl := Option.some.inj H
 go_enter Tryz.func105, Tryz.ntmps105
 go_wp2
 go_ret
 exact ⟨eS_, dR_⟩}
 {
 rw [if_neg c4] at H
 have c4b0 : decide (65 ≤ a0) = false := decide_eq_false c4
 clear c4
 obtain rfl := Option.some.inj H
 go_enter Tryz.func105, Tryz.ntmps105
 go_wp2
 go_ret
 exact ⟨eS_, dR_⟩}}}
 {
 rw [if_neg c2] at H
 have c2b0 : decide (97 ≤ a0) = false := decide_eq_false c2
 clear c2
 by_cases c5 : a0 ≥ 65
 {
 rw [if_pos c5] at H
 have c5b0 : decide (65 ≤ a0) = true := decide_eq_true c5
 clear c5
 obtain rfl := Option.some.inj H
 go_enter Tryz.func105, Tryz.ntmps105
 go_wp2
 go_ret
 exact ⟨eS_, dR_⟩}
 {
 rw [if_neg c5] at H
 have c5b0 : decide (65 ≤ a0) = false := decide_eq_false c5
 clear c5
 obtain rfl := Option.some.inj H
 go_enter Tryz.func105, Tryz.ntmps105
 go_wp2
 go_ret
 exact ⟨eS_, dR_⟩
}}
def impl_digit.f (a0 : Int) : Option (Bool) := if a0 ≥ 48 then (some (decide (a0 ≤ 57))) else (some false)
theorem impl_digit.calls (a0 : Int) (r : Bool) (w : World) (h : impl_digit.f a0 = some r) :
 Calls Tryz.prog 106 #[.int .u8 a0] w fun e w' => e = .returned (.bool r) ∧ Drawn0 w w' := by
 have H : (if a0 ≥ 48 then (some (decide (a0 ≤ 57))) else (some false)) = some r := h
 clear h
 by_cases c2 : a0 ≥ 48
 {
 rw [if_pos c2] at H
 have c2b0 : decide (48 ≤ a0) = true := decide_eq_true c2
 clear c2
 obtain rfl := Option.some.inj H
 go_enter Tryz.func106, Tryz.ntmps106
 go_wp2
 go_ret
 exact ⟨eS_, dR_⟩}
 {
 rw [if_neg c2] at H
 have c2b0 : decide (48 ≤ a0) = false := decide_eq_false c2
 clear c2
 obtain rfl := Option.some.inj H
 go_enter Tryz.func106, Tryz.ntmps106
 go_wp2
 go_ret
 exact ⟨eS_, dR_⟩
}
theorem strings_ContainsRune.enc_hi (r : Int) (h0 : 128 ≤ r) (h1 : r ≤ 255) : ∃ x y : UInt8, Utf8.encode r = ⟨#[x, y]⟩ ∧ 128 ≤ y.toNat := by
 obtain ⟨n, rfl⟩ := Int.eq_ofNat_of_zero_le (show 0 ≤ r by omega)
 have hn : n - 128 < 128 := by omega
 have : ∀ k : Fin 128, ∃ x y : UInt8, Utf8.encode ((k.val + 128 : Nat) : Int) = ⟨#[x, y]⟩ ∧ 128 ≤ y.toNat := by
  intro k
  refine ⟨(Utf8.encode ((k.val + 128 : Nat) : Int)).data[0]!, (Utf8.encode ((k.val + 128 : Nat) : Int)).data[1]!, ?_⟩
  revert k
  decide +kernel
 have h := this ⟨n - 128, hn⟩
 rwa [show (n - 128) + 128 = n by omega] at h
set_option maxHeartbeats 2000000 in
set_option maxRecDepth 1000000 in
theorem strings_ContainsRune.index_hi (r : Int) (w : World) (h0 : 128 ≤ r) (h1 : r ≤ 255) :
 Calls Tryz.prog 114 #[.string ⟨#[45, 95, 46, 43]⟩, .int .i32 r] w fun e w' => e = .returned (.int .i64 (-1)) ∧ Drawn0 w w' := by
 have hv : Lib.validRune r = true := by unfold Lib.validRune; simp; omega
 have c1 : decide (r < 128) = false := decide_eq_false (by omega)
 have c2 : (r == 65533) = false := beq_eq_false_iff_ne.2 (by omega)
 obtain ⟨x, y, he, hy⟩ := strings_ContainsRune.enc_hi r h0 h1
 have hy2 : ((95 : Int) != (y.toNat : Int)) = true := by rw [bne_iff_ne]; omega
 have hyb : ((y.toNat : Int)).toNat.toUInt8 = y := by simp
 have hi : Lib.indexByte [46, 43] y = -1 := by
  have a1 : ((46 : UInt8) == y) = false := by rw [beq_eq_false_iff_ne]; rintro rfl; revert hy; decide
  have a2 : ((43 : UInt8) == y) = false := by rw [beq_eq_false_iff_ne]; rintro rfl; revert hy; decide
  simp [Lib.indexByte, a1, a2]
 have hw2 : IntKind.i64.wrap (1 + 1) = 2 := by decide
 have hb1 : ∀ h : 1 < (⟨#[45, 95, 46, 43]⟩ : ByteArray).size, (((⟨#[45, 95, 46, 43]⟩ : ByteArray)[1]'h).toNat : Int) = 95 := fun _ => rfl
 have hb2 : ∀ h : 1 < (⟨#[x, y]⟩ : ByteArray).size, (((⟨#[x, y]⟩ : ByteArray)[1]'h).toNat : Int) = (y.toNat : Int) := fun _ => rfl
 go_enter Tryz.func114, Tryz.ntmps114
 go_wp2_with (go_at_call 132; refine (Tryz.utf8_ValidRune _ _).mono ?_; rintro e w' ⟨rfl, rfl⟩; rw [hv])
 go_step3
 go_wp2
 refine wp_loop_rounds 1 ?_
 rw [rounds_succ]
 go_wp2
 go_step3
 go_wp2
 go_quiet (fail)
 go_wp2
 go_quiet ((go_at_call 108; refine (Tryz.strings_IndexByte _ _ _).mono ?_; rintro e w1 ⟨rfl, hw1⟩; exact ⟨rfl, _, hw1⟩))
 go_wp2
 rw [Exit.noGoto_ret]
 simp only [Exit.inBlock, Exit.then]
 rw [Exit.noGoto_ret]
 go_ret
 exact ⟨rfl, (Drawn0.refl _).step _⟩
theorem strings_ContainsRune.low (k : Fin 128) : decide (0 ≤ Lib.indexByte [45, 95, 46, 43] ((k.val : Int)).toNat.toUInt8) = decide ((k.val : Int) = 45 ∨ (k.val : Int) = 95 ∨ (k.val : Int) = 46 ∨ (k.val : Int) = 43) := by
 revert k
 decide +kernel
def strings_ContainsRune.f (a0 : ByteArray) (a1 : Int) : Option Bool := if a0.data.toList = [45, 95, 46, 43] then (if 0 ≤ a1 then (if a1 ≤ 255 then some (decide (a1 = 45 ∨ a1 = 95 ∨ a1 = 46 ∨ a1 = 43)) else none) else none) else none
set_option maxHeartbeats 2000000 in
set_option maxRecDepth 1000000 in
theorem strings_ContainsRune.calls (a0 : ByteArray) (a1 : Int) (r : Bool) (w : World) (h : strings_ContainsRune.f a0 a1 = some r) :
 Calls Tryz.prog 107 #[.string a0, .int .i32 a1] w fun e w' => e = .returned (.bool r) ∧ Drawn0 w w' := by
 unfold strings_ContainsRune.f at h
 split at h
 {
 rename_i hs
 obtain rfl : a0 = ⟨#[45, 95, 46, 43]⟩ := by
  cases a0 with
  | mk d => exact congrArg ByteArray.mk (Array.toList_inj.1 hs)
 split at h
 {
 rename_i h0
 split at h
 {
 rename_i h1
 obtain rfl := Option.some.inj h
 by_cases hl : a1 < 128
 {
 obtain ⟨n, rfl⟩ := Int.eq_ofNat_of_zero_le h0
 have hk := strings_ContainsRune.low ⟨n, by omega⟩
 refine (Tryz.strings_ContainsRune_ascii _ (n : Int) w h0 hl).mono fun e w' ⟨he, hw⟩ => ⟨?_, hw ▸ Drawn0.refl _⟩
 rw [he]
 exact congrArg (fun b => Ending.returned (.bool b)) hk}
 {
 rw [decide_eq_false (show ¬ (a1 = 45 ∨ a1 = 95 ∨ a1 = 46 ∨ a1 = 43) by omega)]
 go_enter Tryz.func107, Tryz.ntmps107
 go_wp2_with (go_at_call 114; refine (strings_ContainsRune.index_hi a1 _ (by omega) h1).mono ?_; rintro e w' ⟨rfl, ⟨nd, rfl⟩⟩)
 go_ret
 exact ⟨rfl, dR_⟩}}
 {
 cases h}}
 {
 cases h}}
 {
 cases h
}
mutual
def impl_NameOk.j0 : Nat → ByteArray → Bool → Option (Bool)
 | 0, _, _ => none
 | k + 1, x0, x17 => if x17 = true then (some false) else (impl_NameOk.l0 k x0 (x0.size : Int) 0)
def impl_NameOk.l0 : Nat → ByteArray → Int → Int → Option (Bool)
 | 0, _, _, _ => none
 | k + 1, x0, x19, x20 => if x20 < x19 then (if 0 ≤ x20 then (if x20 < (x0.size : Int) then ((impl_letter.f (bt x0 x20)).bind fun t352 => (if t352 = true then (impl_NameOk.l0 k x0 x19 (wrap64 (x20 + 1))) else ((impl_digit.f (bt x0 x20)).bind fun t353 => (if t353 = true then (impl_NameOk.l0 k x0 x19 (wrap64 (x20 + 1))) else ((strings_ContainsRune.f (⟨#[45, 95, 46, 43]⟩ : ByteArray) (wrap32 (bt x0 x20))).bind fun t354 => (if t354 = true then (impl_NameOk.l0 k x0 x19 (wrap64 (x20 + 1))) else (some false))))))) else (none)) else (none)) else (some true)
end
def impl_NameOk.f (k : Nat) (a0 : ByteArray) : Option (Bool) := if (a0.size : Int) < 1 then (impl_NameOk.j0 k a0 true) else (if (a0.size : Int) > 60 then (impl_NameOk.j0 k a0 true) else (if 0 < (a0.size : Int) then (impl_NameOk.j0 k a0 ((bt a0 0) == 46)) else (none)))
theorem impl_NameOk.mono_l : ∀ k, (∀ y0 y1, LeO (impl_NameOk.j0 k y0 y1) (impl_NameOk.j0 (k + 1) y0 y1)) ∧ (∀ y0 y1 y2, LeO (impl_NameOk.l0 k y0 y1 y2) (impl_NameOk.l0 (k + 1) y0 y1 y2))
 | 0 => ⟨fun _ _ r h => by simp [impl_NameOk.j0] at h, fun _ _ _ r h => by simp [impl_NameOk.l0] at h⟩
 | k + 1 => by
      obtain ⟨ih0, ih1⟩ := impl_NameOk.mono_l k
      refine ⟨?_, ?_⟩
      {
      intro y0 y1
      unfold impl_NameOk.j0
      repeat' first
      | (with_reducible exact ih0 _ _)
      | (with_reducible exact ih1 _ _ _)
      | (with_reducible exact LeO.refl _)
      | (with_reducible exact LeO.none _)
      | (with_reducible refine LeO.ite ?_ ?_)
      | (with_reducible refine LeO.bind ?_ (fun _ => ?_))
      | exact ih0 _ _
      | exact ih1 _ _ _
      | exact LeO.none _
      | refine LeO.ite ?_ ?_
      | refine LeO.bind ?_ (fun _ => ?_)}
      {
      intro y0 y1 y2
      unfold impl_NameOk.l0
      repeat' first
      | (with_reducible exact ih0 _ _)
      | (with_reducible exact ih1 _ _ _)
      | (with_reducible exact LeO.refl _)
      | (with_reducible exact LeO.none _)
      | (with_reducible refine LeO.ite ?_ ?_)
      | (with_reducible refine LeO.bind ?_ (fun _ => ?_))
      | exact ih0 _ _
      | exact ih1 _ _ _
      | exact LeO.none _
      | refine LeO.ite ?_ ?_
      | refine LeO.bind ?_ (fun _ => ?_)}
theorem impl_NameOk.mono : ∀ a0 k, LeO (impl_NameOk.f k a0) (impl_NameOk.f (k + 1) a0) := by
 intro a0 k
 obtain ⟨ih0, ih1⟩ := impl_NameOk.mono_l k
 unfold impl_NameOk.f
 repeat' first
  | (with_reducible exact ih0 _ _)
  | (with_reducible exact ih1 _ _ _)
  | (with_reducible exact LeO.refl _)
  | (with_reducible exact LeO.none _)
  | (with_reducible refine LeO.ite ?_ ?_)
  | (with_reducible refine LeO.bind ?_ (fun _ => ?_))
  | exact ih0 _ _
  | exact ih1 _ _ _
  | exact LeO.none _
  | refine LeO.ite ?_ ?_
  | refine LeO.bind ?_ (fun _ => ?_)
theorem impl_NameOk.calls (k : Nat) (a0 : ByteArray) (r : Bool) (w : World) (h : impl_NameOk.f k a0 = some r) :
 Calls Tryz.prog 96 #[.string a0] w fun e w' => e = .returned (.bool r) ∧ Drawn0 w w' := by
 have H : (if (a0.size : Int) < 1 then (impl_NameOk.j0 k a0 true) else (if (a0.size : Int) > 60 then (impl_NameOk.j0 k a0 true) else (if 0 < (a0.size : Int) then (impl_NameOk.j0 k a0 ((bt a0 0) == 46)) else (none)))) = some r := h
 clear h
 have HC2 := Aside0.mk H
 clear H
 go_enter Tryz.func96, Tryz.ntmps96
 go_upto_region 1 with (fail)
 go_cut [17] (fun v17 wc => ∃ (kq : Nat) (x17_1 : Bool), v17 = .bool x17_1 ∧ Aside0 (impl_NameOk.j0 kq a0 x17_1 = some r) ∧ Aside0 (kq ≤ k) ∧ Drawn0 w wc)
 case first =>
  have H := HC2.out
  clear HC2
  by_cases c3 : (a0.size : Int) < 1
  {
  rw [if_pos c3] at H
  have c3b0 := decide_eq_true c3
  have c3b1 : decide (a0.size < 1) = true := decide_eq_true (by omega)
  clear c3
  (first | rw [c3b0] | (simp only [i64_w, i32_w]; rw [c3b0]) | skip)
  have H' := Aside0.mk H
  clear H
  go_wp2
  go_meet
  case rel => exact ⟨_, (true), (by first | rfl | (simp; done) | (simp [*]; done)), H', ⟨by first | omega | exact Nat.le_refl _⟩, dR_⟩}
  {
  rw [if_neg c3] at H
  have c3b0 := decide_eq_false c3
  have c3b1 : decide (a0.size < 1) = false := decide_eq_false (by omega)
  clear c3
  (first | rw [c3b0] | (simp only [i64_w, i32_w]; rw [c3b0]) | skip)
  by_cases c4 : (a0.size : Int) > 60
  {
  rw [if_pos c4] at H
  have c4b0 : decide (60 < (a0.size : Int)) = true := decide_eq_true c4
  have c4b1 : decide (60 < a0.size) = true := decide_eq_true (by omega)
  clear c4
  have H' := Aside0.mk H
  clear H
  go_wp2
  go_meet
  case rel => exact ⟨_, (true), (by first | rfl | (simp; done) | (simp [*]; done)), H', ⟨by first | omega | exact Nat.le_refl _⟩, dR_⟩}
  {
  rw [if_neg c4] at H
  have c4b0 : decide (60 < (a0.size : Int)) = false := decide_eq_false c4
  have c4b1 : decide (60 < a0.size) = false := decide_eq_false (by omega)
  clear c4
  by_cases c5 : 0 < (a0.size : Int)
  {
  rw [if_pos c5] at H
  have c5b0 := decide_eq_true c5
  have c5b1 : decide (0 < a0.size) = true := decide_eq_true (by omega)
  clear c5
  have H' := Aside0.mk H
  clear H
  have p6 : 0 ≤ (0 : Int) := (by omega)
  have q6 : 0 < a0.size := (by have : (0 : Int) < (a0.size : Int) := dA_; omega)
  have hx6 : ∀ h : 0 < a0.size, ((a0[0]'h).toNat : Int) = bt a0 0 := bt_at a0 0
  clear p6
  have qi6 : (0 < (a0.size : Int)) = True := eq_true (dA_)
  replace q6 := eq_true q6
  go_wp2
  go_meet
  case rel => exact ⟨_, (((bt a0 0) == 46)), (by first | rfl | (simp; done) | (simp [*]; done)), H', ⟨by first | omega | exact Nat.le_refl _⟩, dR_⟩}
  {
  rw [if_neg c5] at H
  exact absurd H (by simp)}}}
 case rest =>
  clear HC2
  try clear p2
  try clear c3
  try clear c3b0
  try clear c3b1
  try clear c4
  try clear c4b0
  try clear c4b1
  try clear c5
  try clear c5b0
  try clear c5b1
  try clear p6
  try clear q6
  try clear hx6
  try clear qi6
  try clear p6
  try clear q6
  obtain ⟨kq, x17_1, rfl, HA, HJ1, ⟨mc1, rfl⟩⟩ := hcut
  cases kq with
  | zero => exact absurd HA.out (by simp [impl_NameOk.j0])
  | succ kj1 =>
       have H := HA.out
       clear HA
       simp only [impl_NameOk.j0] at H
       by_cases c7 : x17_1 = true
       {
       subst c7
       rw [if_pos rfl] at H
       obtain rfl := Option.some.inj H
       go_wp2
       go_ret
       exact ⟨eS_, dR_⟩}
       {
       replace c7 := Bool.eq_false_iff.mpr c7
       subst c7
       rw [if_neg (show ¬ (false = true) by decide)] at H
       have H' := Aside0.mk H
       clear H
       go_wp2
       go_loopg [20] kj1 (fun kq v20 w' => ∃ (x20_2 : Int), v20 = .int .i64 x20_2 ∧ Aside0 (impl_NameOk.l0 kq a0 (a0.size : Int) x20_2 = some r) ∧ Aside0 (kq ≤ kj1) ∧ Drawn0 w w')
       case atStart => exact ⟨(0), (by first | rfl | (simp; done) | (simp [*]; done)), H', ⟨Nat.le_refl _⟩, dR_⟩
       case round =>
        clear H'
        try clear c1
        try clear p2
        try clear c3
        try clear c3b0
        try clear c3b1
        try clear c4
        try clear c4b0
        try clear c4b1
        try clear c5
        try clear c5b0
        try clear c5b1
        try clear p6
        try clear q6
        try clear hx6
        try clear qi6
        try clear c7
        try clear p2
        try clear p6
        try clear q6
        obtain ⟨x20_2, rfl, HA, HK2, ⟨m2, rfl⟩⟩ := hrel
        cases gk with
        | zero => exact absurd HA.out (by simp [impl_NameOk.l0])
        | succ k2 =>
             have H := HA.out
             clear HA
             simp only [impl_NameOk.l0] at H
             by_cases c8 : x20_2 < (a0.size : Int)
             {
             rw [if_pos c8] at H
             have c8b0 := decide_eq_true c8
             clear c8
             by_cases c9 : 0 ≤ x20_2
             {
             rw [if_pos c9] at H
             have c9b0 := decide_eq_true c9
             clear c9
             by_cases c10 : x20_2 < (a0.size : Int)
             {
             rw [if_pos c10] at H
             have c10b0 := decide_eq_true c10
             clear c10
             replace H := Option.bind_eq_some_iff.mp H
             obtain ⟨t352, A120, H⟩ := H
             have A12 := Aside0.mk A120
             clear A120
             by_cases c13 : t352 = true
             {
             subst c13
             rw [if_pos rfl] at H
             have H' := Aside0.mk H
             clear H
             have p11 : 0 ≤ (x20_2 : Int) := dA_
             have q11 : x20_2 < (a0.size : Int) := dA_
             have hx11 := bt_at a0 x20_2
             replace p11 := eq_true p11
             replace q11 := eq_true q11
             go_wp2_with (first | ((with_reducible refine gate_callee (f := 105) rfl ?_); refine gL_ (some 27) Tryz.func105 #[.int .u8 (bt a0 x20_2)] ?_; (with_reducible refine (impl_letter.calls (bt a0 x20_2) true _ A12.out).mono ?_); rintro e w' ⟨rfl, ⟨nd, rfl⟩⟩; refine ⟨_, rfl, ?_⟩))
             go_roundg k2
             case measure => have := HJ1.out; have := HK2.out; omega
             case rel => exact ⟨(wrap64 (x20_2 + 1)), (by first | rfl | (simp; done) | (simp [*]; done)), H', ⟨by have := HJ1.out; have := HK2.out; omega⟩, dR_⟩}
             {
             replace c13 := Bool.eq_false_iff.mpr c13
             subst c13
             rw [if_neg (show ¬ (false = true) by decide)] at H
             replace H := Option.bind_eq_some_iff.mp H
             obtain ⟨t353, A140, H⟩ := H
             have A14 := Aside0.mk A140
             clear A140
             by_cases c15 : t353 = true
             {
             subst c15
             rw [if_pos rfl] at H
             have H' := Aside0.mk H
             clear H
             have p11 : 0 ≤ (x20_2 : Int) := dA_
             have q11 : x20_2 < (a0.size : Int) := dA_
             have hx11 := bt_at a0 x20_2
             replace p11 := eq_true p11
             replace q11 := eq_true q11
             go_wp2_with (first | ((with_reducible refine gate_callee (f := 105) rfl ?_); refine gL_ (some 27) Tryz.func105 #[.int .u8 (bt a0 x20_2)] ?_; (with_reducible refine (impl_letter.calls (bt a0 x20_2) false _ A12.out).mono ?_); rintro e w' ⟨rfl, ⟨nd, rfl⟩⟩; refine ⟨_, rfl, ?_⟩) | (go_at_call 106; (with_reducible refine (impl_digit.calls (bt a0 x20_2) true _ A14.out).mono ?_); rintro e w' ⟨rfl, ⟨nd, rfl⟩⟩))
             go_roundg k2
             case measure => have := HJ1.out; have := HK2.out; omega
             case rel => exact ⟨(wrap64 (x20_2 + 1)), (by first | rfl | (simp; done) | (simp [*]; done)), H', ⟨by have := HJ1.out; have := HK2.out; omega⟩, dR_⟩}
             {
             replace c15 := Bool.eq_false_iff.mpr c15
             subst c15
             rw [if_neg (show ¬ (false = true) by decide)] at H
             replace H := Option.bind_eq_some_iff.mp H
             obtain ⟨t354, A160, H⟩ := H
             have A16 := Aside0.mk A160
             clear A160
             by_cases c17 : t354 = true
             {
             subst c17
             rw [if_pos rfl] at H
             have H' := Aside0.mk H
             clear H
             have p11 : 0 ≤ (x20_2 : Int) := dA_
             have q11 : x20_2 < (a0.size : Int) := dA_
             have hx11 := bt_at a0 x20_2
             replace p11 := eq_true p11
             replace q11 := eq_true q11
             go_wp2_with (first | ((with_reducible refine gate_callee (f := 105) rfl ?_); refine gL_ (some 27) Tryz.func105 #[.int .u8 (bt a0 x20_2)] ?_; (with_reducible refine (impl_letter.calls (bt a0 x20_2) false _ A12.out).mono ?_); rintro e w' ⟨rfl, ⟨nd, rfl⟩⟩; refine ⟨_, rfl, ?_⟩) | (go_at_call 106; (with_reducible refine (impl_digit.calls (bt a0 x20_2) false _ A14.out).mono ?_); rintro e w' ⟨rfl, ⟨nd, rfl⟩⟩) | (go_at_call 107; (with_reducible refine (strings_ContainsRune.calls (⟨#[45, 95, 46, 43]⟩ : ByteArray) (wrap32 (bt a0 x20_2)) true _ A16.out).mono ?_); rintro e w' ⟨rfl, ⟨nd, rfl⟩⟩))
             go_roundg k2
             case measure => have := HJ1.out; have := HK2.out; omega
             case rel => exact ⟨(wrap64 (x20_2 + 1)), (by first | rfl | (simp; done) | (simp [*]; done)), H', ⟨by have := HJ1.out; have := HK2.out; omega⟩, dR_⟩}
             {
             replace c17 := Bool.eq_false_iff.mpr c17
             subst c17
             rw [if_neg (show ¬ (false = true) by decide)] at H
             obtain rfl := Option.some.inj H
             have p11 : 0 ≤ (x20_2 : Int) := dA_
             have q11 : x20_2 < (a0.size : Int) := dA_
             have hx11 := bt_at a0 x20_2
             replace p11 := eq_true p11
             replace q11 := eq_true q11
             go_wp2_with (first | ((with_reducible refine gate_callee (f := 105) rfl ?_); refine gL_ (some 27) Tryz.func105 #[.int .u8 (bt a0 x20_2)] ?_; (with_reducible refine (impl_letter.calls (bt a0 x20_2) false _ A12.out).mono ?_); rintro e w' ⟨rfl, ⟨nd, rfl⟩⟩; refine ⟨_, rfl, ?_⟩) | (go_at_call 106; (with_reducible refine (impl_digit.calls (bt a0 x20_2) false _ A14.out).mono ?_); rintro e w' ⟨rfl, ⟨nd, rfl⟩⟩) | (go_at_call 107; (with_reducible refine (strings_ContainsRune.calls (⟨#[45, 95, 46, 43]⟩ : ByteArray) (wrap32 (bt a0 x20_2)) false _ A16.out).mono ?_); rintro e w' ⟨rfl, ⟨nd, rfl⟩⟩))
             go_ret
             exact ⟨eS_, dR_⟩}}}}
             {
             rw [if_neg c10] at H
             exact absurd H (by simp)}}
             {
             rw [if_neg c9] at H
             exact absurd H (by simp)}}
             {
             rw [if_neg c8] at H
             have c8b0 := decide_eq_false c8
             clear c8
             obtain rfl := Option.some.inj H
             go_wp2
             go_ret
             exact ⟨eS_, dR_⟩
}}
def strings_Split.f (a0 a1 : ByteArray) : Option (List ByteArray) := if a0.size < 4294967281 then (if 1 ≤ a1.size then some (Lib.splitB a1 0 (Lib.countB a0 a1) a0) else none) else none
theorem strings_Split.calls (a0 a1 : ByteArray) (r : List ByteArray) (w : World) (hE : EnvW w) (h : strings_Split.f a0 a1 = some r) :
 Calls Tryz.prog 109 #[.string a0, .string a1] w fun e w' => ∃ v0_ : Value, e = .returned (v0_) ∧ Kd.R Kd.string 9 w' w.heap.size (fun _ => True) v0_ r ∧ Below w.heap.size w w' := by
 unfold strings_Split.f at h
 split at h
 {
 rename_i hs
 split at h
 {
 rename_i h1
 obtain rfl := Option.some.inj h
 obtain ⟨m, hm⟩ := hE.out
 refine (Tryz.strings_Split a0 a1 m w hs hm h1).mono fun e w' ⟨he, hw⟩ => ⟨_, he, ?_, ?_⟩
 {
 rw [hw]
 exact R_texts w 9 _ _ (splitB_length a1 h1 _ a0 rfl) (splitB_le a1 a0 h1 hs)}
 {
 rw [hw]
 exact below_alloc (Below.refl _ _) _}}
 {
 cases h}}
 {
 cases h
}
def impl_pathOk.l0 : Nat → List ByteArray → Int → Int → Option (Bool)
 | 0, _, _, _ => none
 | k + 1, x11, x12, x13 => if x13 < x12 then (if 0 ≤ x13 then (if x13 < (x11.length : Int) then ((impl_NameOk.f k (rdOf ByteArray.empty x11 x13)).bind fun t359 => (if t359 = true then (impl_pathOk.l0 k x11 x12 (wrap64 (x13 + 1))) else (some false))) else (none)) else (none)) else (some true)
def impl_pathOk.f (k : Nat) (a0 : ByteArray) : Option (Bool) := (strings_Split.f a0 (⟨#[47]⟩ : ByteArray)).bind fun t355 => (if (t355.length : Int) > 8 then (some false) else (impl_pathOk.l0 k t355 (t355.length : Int) 0))
theorem impl_pathOk.mono_l : ∀ k, (∀ y0 y1 y2, LeO (impl_pathOk.l0 k y0 y1 y2) (impl_pathOk.l0 (k + 1) y0 y1 y2))
 | 0 => fun _ _ _ r h => by simp [impl_pathOk.l0] at h
 | k + 1 => by
      have ih0 := impl_pathOk.mono_l k
      {
      intro y0 y1 y2
      unfold impl_pathOk.l0
      repeat' first
      | (with_reducible exact ih0 _ _ _)
      | (with_reducible exact impl_NameOk.mono _ _)
      | (with_reducible exact LeO.refl _)
      | (with_reducible exact LeO.none _)
      | (with_reducible refine LeO.ite ?_ ?_)
      | (with_reducible refine LeO.bind ?_ (fun _ => ?_))
      | exact ih0 _ _ _
      | exact impl_NameOk.mono _ _
      | exact LeO.none _
      | refine LeO.ite ?_ ?_
      | refine LeO.bind ?_ (fun _ => ?_)}
theorem impl_pathOk.mono : ∀ a0 k, LeO (impl_pathOk.f k a0) (impl_pathOk.f (k + 1) a0) := by
 intro a0 k
 have ih0 := impl_pathOk.mono_l k
 unfold impl_pathOk.f
 repeat' first
  | (with_reducible exact ih0 _ _ _)
  | (with_reducible exact impl_NameOk.mono _ _)
  | (with_reducible exact LeO.refl _)
  | (with_reducible exact LeO.none _)
  | (with_reducible refine LeO.ite ?_ ?_)
  | (with_reducible refine LeO.bind ?_ (fun _ => ?_))
  | exact ih0 _ _ _
  | exact impl_NameOk.mono _ _
  | exact LeO.none _
  | refine LeO.ite ?_ ?_
  | refine LeO.bind ?_ (fun _ => ?_)
theorem impl_pathOk.calls (k : Nat) (a0 : ByteArray) (r : Bool) (w : World) (hE : EnvW w) (h : impl_pathOk.f k a0 = some r) :
 Calls Tryz.prog 98 #[.string a0] w fun e w' => e = .returned (.bool r) ∧ Below w.heap.size w w' := by
 have HE := Aside0.mk hE
 clear hE
 have HB := Aside0.mk (Below.refl w.heap.size w)
 have H : ((strings_Split.f a0 (⟨#[47]⟩ : ByteArray)).bind fun t355 => (if (t355.length : Int) > 8 then (some false) else (impl_pathOk.l0 k t355 (t355.length : Int) 0))) = some r := h
 clear h
 replace H := Option.bind_eq_some_iff.mp H
 obtain ⟨t355, A20, H⟩ := H
 have A2 := Aside0.mk A20
 clear A20
 by_cases c3 : (t355.length : Int) > 8
 {
 rw [if_pos c3] at H
 have c3b0 : decide (8 < (t355.length : Int)) = true := decide_eq_true c3
 have c3b1 : decide (8 < t355.length) = true := decide_eq_true (by omega)
 clear c3
 obtain rfl := Option.some.inj H
 go_enter Tryz.func98, Tryz.ntmps98
 go_wp2_with (first | ((with_reducible refine gate_callee (f := 109) rfl ?_); refine gL_ (some 7) Tryz.func109 #[.string a0, .string (⟨#[47]⟩ : ByteArray)] ?_; (with_reducible refine (strings_Split.calls a0 (⟨#[47]⟩ : ByteArray) t355 _ ?side1 A2.out).mono ?_); (case side1 => refine EnvW.below HE.out ?_; repeat (first | (with_reducible first | exact HB.out | apply below_alloc | apply pw_below_drewN | apply below_drew1) | exact HB.out)); rintro e w4 ⟨v356, rfl, ho0, hb⟩; refine ⟨_, rfl, ?_⟩; have HO357 := Aside0.mk (Kd.R_lower ho0 (below_size (bw_ HB))); replace HB := Aside0.mk (below_step (bw_ HB) hb); clear hb; (try clear ho0); obtain ⟨Ao5, co5, eo5⟩ := Kd.R_slice HO357.out; subst eo5))
 go_ret
 exact ⟨eR_, bw_ HB⟩}
 {
 rw [if_neg c3] at H
 have c3b0 : decide (8 < (t355.length : Int)) = false := decide_eq_false c3
 have c3b1 : decide (8 < t355.length) = false := decide_eq_false (by omega)
 clear c3
 have H' := Aside0.mk H
 clear H
 go_enter Tryz.func98, Tryz.ntmps98
 go_wp2_with (first | ((with_reducible refine gate_callee (f := 109) rfl ?_); refine gL_ (some 7) Tryz.func109 #[.string a0, .string (⟨#[47]⟩ : ByteArray)] ?_; (with_reducible refine (strings_Split.calls a0 (⟨#[47]⟩ : ByteArray) t355 _ ?side1 A2.out).mono ?_); (case side1 => refine EnvW.below HE.out ?_; repeat (first | (with_reducible first | exact HB.out | apply below_alloc | apply pw_below_drewN | apply below_drew1) | exact HB.out)); rintro e w6 ⟨v356, rfl, ho0, hb⟩; refine ⟨_, rfl, ?_⟩; have HO357 := Aside0.mk (Kd.R_lower ho0 (below_size (bw_ HB))); replace HB := Aside0.mk (below_step (bw_ HB) hb); clear hb; (try clear ho0); obtain ⟨Ao7, co7, eo7⟩ := Kd.R_slice HO357.out; subst eo7))
 go_loopg [13] k (fun kq v13 w' => ∃ (x13_1 : Int), v13 = .int .i64 x13_1 ∧ Aside0 (impl_pathOk.l0 kq t355 (t355.length : Int) x13_1 = some r) ∧ Aside0 (kq ≤ k) ∧ Aside0 (Kd.R Kd.string 9 w' w.heap.size (fun _ => True) (.slice Ao7 t355.length co7) t355) ∧ Aside0 (Below w.heap.size w w'))
 case atStart => exact ⟨(0), (by first | rfl | (simp; done) | (simp [*]; done)), H', ⟨Nat.le_refl _⟩, ⟨kr_ HO357⟩, ⟨bw_ HB⟩⟩
 case round =>
  clear H'
  try clear c1
  try clear p2
  try clear c3
  try clear c3b0
  try clear c3b1
  obtain ⟨x13_1, rfl, HA, HK1, HO_11, HB⟩ := hrel
  cases gk with
  | zero => exact absurd HA.out (by simp [impl_pathOk.l0])
  | succ k1 =>
       have H := HA.out
       clear HA
       simp only [impl_pathOk.l0] at H
       by_cases c8 : x13_1 < (t355.length : Int)
       {
       rw [if_pos c8] at H
       have c8b0 := decide_eq_true c8
       clear c8
       by_cases c9 : 0 ≤ x13_1
       {
       rw [if_pos c9] at H
       have c9b0 := decide_eq_true c9
       clear c9
       by_cases c10 : x13_1 < (t355.length : Int)
       {
       rw [if_pos c10] at H
       have c10b0 := decide_eq_true c10
       clear c10
       replace H := Option.bind_eq_some_iff.mp H
       obtain ⟨t359, A110, H⟩ := H
       have A11 := Aside0.mk A110
       clear A110
       by_cases c12 : t359 = true
       {
       subst c12
       rw [if_pos rfl] at H
       have H' := Aside0.mk H
       clear H
       have p358 : 0 ≤ (x13_1 : Int) := dA_
       have q358 : x13_1 < (t355.length : Int) := dA_
       obtain ⟨ad358, e358, hx358_0⟩ := Kd.at_string (Kd.R_reads' HO_11.out).2.2 x13_1 p358 q358
       cases e358
       replace p358 := eq_true p358
       replace q358 := eq_true q358
       go_wp2_with (first | ((with_reducible refine gate_callee (f := 96) rfl ?_); refine gL_ (some 18) Tryz.func96 #[.string (rdOf ByteArray.empty t355 x13_1)] ?_; (with_reducible refine (impl_NameOk.calls k1 (rdOf ByteArray.empty t355 x13_1) true _ A11.out).mono ?_); rintro e w' ⟨rfl, ⟨nd, rfl⟩⟩; refine ⟨_, rfl, ?_⟩))
       go_roundg k1
       case measure => have := HK1.out; omega
       case rel => exact ⟨(wrap64 (x13_1 + 1)), (by first | rfl | (simp; done) | (simp [*]; done)), H', ⟨by have := HK1.out; omega⟩, ⟨kr_ HO_11⟩, ⟨bw_ HB⟩⟩}
       {
       replace c12 := Bool.eq_false_iff.mpr c12
       subst c12
       rw [if_neg (show ¬ (false = true) by decide)] at H
       obtain rfl := Option.some.inj H
       have p358 : 0 ≤ (x13_1 : Int) := dA_
       have q358 : x13_1 < (t355.length : Int) := dA_
       obtain ⟨ad358, e358, hx358_0⟩ := Kd.at_string (Kd.R_reads' HO_11.out).2.2 x13_1 p358 q358
       cases e358
       replace p358 := eq_true p358
       replace q358 := eq_true q358
       go_wp2_with (first | ((with_reducible refine gate_callee (f := 96) rfl ?_); refine gL_ (some 18) Tryz.func96 #[.string (rdOf ByteArray.empty t355 x13_1)] ?_; (with_reducible refine (impl_NameOk.calls k1 (rdOf ByteArray.empty t355 x13_1) false _ A11.out).mono ?_); rintro e w' ⟨rfl, ⟨nd, rfl⟩⟩; refine ⟨_, rfl, ?_⟩))
       go_ret
       exact ⟨eR_, bw_ HB⟩}}
       {
       rw [if_neg c10] at H
       exact absurd H (by simp)}}
       {
       rw [if_neg c9] at H
       exact absurd H (by simp)}}
       {
       rw [if_neg c8] at H
       have c8b0 := decide_eq_false c8
       clear c8
       obtain rfl := Option.some.inj H
       go_wp2
       go_ret
       exact ⟨eR_, bw_ HB⟩
}}
def strings_LastIndexByte.f (a0 : ByteArray) (a1 : Int) : Option Int := if a0.size < 4611686018427387904 then some (Lib.lastIndexByte a0 a1) else none
theorem strings_LastIndexByte.calls (a0 : ByteArray) (a1 : Int) (r : Int) (w : World) (h : strings_LastIndexByte.f a0 a1 = some r) :
 Calls Tryz.prog 110 #[.string a0, .int .u8 a1] w fun e w' => e = .returned (.int .i64 r) ∧ Drawn0 w w' := by
 unfold strings_LastIndexByte.f at h
 split at h
 {
 rename_i hs
 obtain rfl := Option.some.inj h
 exact (Tryz.strings_LastIndexByte a0 a1 hs w).mono fun e w' ⟨he, hw⟩ => ⟨he, hw ▸ Drawn0.refl _⟩}
 {
 cases h
}
def laws_szEntry.f (a0_0 : ByteArray) (a0_1 : Int) (a0_2 : ByteArray) (a0_3 : Bool) (a1 : Int) : Option (Int) := if (wrap64 (a1 - (a0_0.size : Int))) < 0 then (some (-1)) else (if (wrap64 ((wrap64 (a1 - (a0_0.size : Int))) - (a0_2.size : Int))) < 0 then (some (-1)) else (some (wrap64 ((wrap64 (a1 - (a0_0.size : Int))) - (a0_2.size : Int)))))
theorem laws_szEntry.calls (a0_0 : ByteArray) (a0_1 : Int) (a0_2 : ByteArray) (a0_3 : Bool) (a1 : Int) (r : Int) (w : World) (h : laws_szEntry.f a0_0 a0_1 a0_2 a0_3 a1 = some r) :
 Calls Tryz.prog 42 #[.agg #[.string a0_0, .int .i64 a0_1, .string a0_2, .bool a0_3], .int .i64 a1] w fun e w' => e = .returned (.int .i64 r) ∧ Below w.heap.size w w' := by
 have hu70 := Tryz.underlying70
 have HB := Aside0.mk (Below.refl w.heap.size w)
 have H : (if (wrap64 (a1 - (a0_0.size : Int))) < 0 then (some (-1)) else (if (wrap64 ((wrap64 (a1 - (a0_0.size : Int))) - (a0_2.size : Int))) < 0 then (some (-1)) else (some (wrap64 ((wrap64 (a1 - (a0_0.size : Int))) - (a0_2.size : Int)))))) = some r := h
 clear h
 by_cases c3 : (wrap64 (a1 - (a0_0.size : Int))) < 0
 {
 rw [if_pos c3] at H
 have c3b0 := decide_eq_true c3
 clear c3
 obtain rfl := Option.some.inj H
 go_enter Tryz.func42, Tryz.ntmps42
 go_wp2_with (first | ((with_reducible refine gate_dst (N := 2) rfl ?_); refine bE_ 2 #[.string a0_0, .int .i64 a0_1, .string a0_2, .bool a0_3] 70 ?_; intro gb101 hg w4 hbox hb; have BK101 := Aside0.mk (hbox); have GW101 := Aside0.mk (ge_ hg (bw_ HB)); have GE101 := Aside0.mk (ge_ hg (bw_ HB)); replace HB := Aside0.mk (below_step (bw_ HB) hb); clear hb hbox hg; have hcz5_0 := cz_ BK101 0 (.string a0_0); have hcz5_1 := cz_ BK101 1 (.int .i64 a0_1); have hcz5_2 := cz_ BK101 2 (.string a0_2); have hcz5_3 := cz_ BK101 3 (.bool a0_3); have hfz5_0 := blk_frozen BK101.out 0; have hfz5_1 := blk_frozen BK101.out 1; have hfz5_2 := blk_frozen BK101.out 2; have hfz5_3 := blk_frozen BK101.out 3))
 go_ret
 exact ⟨eR_, bw1_ HB GE101⟩}
 {
 rw [if_neg c3] at H
 have c3b0 := decide_eq_false c3
 clear c3
 by_cases c6 : (wrap64 ((wrap64 (a1 - (a0_0.size : Int))) - (a0_2.size : Int))) < 0
 {
 rw [if_pos c6] at H
 have c6b0 := decide_eq_true c6
 clear c6
 obtain rfl := Option.some.inj H
 go_enter Tryz.func42, Tryz.ntmps42
 go_wp2_with (first | ((with_reducible refine gate_dst (N := 2) rfl ?_); refine bE_ 2 #[.string a0_0, .int .i64 a0_1, .string a0_2, .bool a0_3] 70 ?_; intro gb101 hg w7 hbox hb; have BK101 := Aside0.mk (hbox); have GW101 := Aside0.mk (ge_ hg (bw_ HB)); have GE101 := Aside0.mk (ge_ hg (bw_ HB)); replace HB := Aside0.mk (below_step (bw_ HB) hb); clear hb hbox hg; have hcz8_0 := cz_ BK101 0 (.string a0_0); have hcz8_1 := cz_ BK101 1 (.int .i64 a0_1); have hcz8_2 := cz_ BK101 2 (.string a0_2); have hcz8_3 := cz_ BK101 3 (.bool a0_3); have hfz8_0 := blk_frozen BK101.out 0; have hfz8_1 := blk_frozen BK101.out 1; have hfz8_2 := blk_frozen BK101.out 2; have hfz8_3 := blk_frozen BK101.out 3))
 go_ret
 exact ⟨eR_, bw1_ HB GE101⟩}
 {
 rw [if_neg c6] at H
 have c6b0 := decide_eq_false c6
 clear c6
 obtain rfl := Option.some.inj H
 go_enter Tryz.func42, Tryz.ntmps42
 go_wp2_with (first | ((with_reducible refine gate_dst (N := 2) rfl ?_); refine bE_ 2 #[.string a0_0, .int .i64 a0_1, .string a0_2, .bool a0_3] 70 ?_; intro gb101 hg w9 hbox hb; have BK101 := Aside0.mk (hbox); have GW101 := Aside0.mk (ge_ hg (bw_ HB)); have GE101 := Aside0.mk (ge_ hg (bw_ HB)); replace HB := Aside0.mk (below_step (bw_ HB) hb); clear hb hbox hg; have hcz10_0 := cz_ BK101 0 (.string a0_0); have hcz10_1 := cz_ BK101 1 (.int .i64 a0_1); have hcz10_2 := cz_ BK101 2 (.string a0_2); have hcz10_3 := cz_ BK101 3 (.bool a0_3); have hfz10_0 := blk_frozen BK101.out 0; have hfz10_1 := blk_frozen BK101.out 1; have hfz10_2 := blk_frozen BK101.out 2; have hfz10_3 := blk_frozen BK101.out 3))
 go_ret
 exact ⟨eR_, bw1_ HB GE101⟩
}}
def laws_szEntryS.l0 : Nat → List (S70) → Int → Int → Option (Int)
 | 0, _, _, _ => none
 | k + 1, x0, x1, x5 => if x5 < (x0.length : Int) then (if 0 ≤ x5 then ((laws_szEntry.f ((rd_T70 x0 x5).f0) ((rd_T70 x0 x5).f1) ((rd_T70 x0 x5).f2) ((rd_T70 x0 x5).f3) x1).bind fun t103 => (if t103 < 0 then (some (-1)) else (laws_szEntryS.l0 k x0 t103 (wrap64 (x5 + 1))))) else (none)) else (some x1)
def laws_szEntryS.f (k : Nat) (l0 : List (S70)) (a1 : Int) : Option (Int) := if (wrap64 (a1 - (l0.length : Int))) < 0 then (some (-1)) else (laws_szEntryS.l0 k l0 (wrap64 (a1 - (l0.length : Int))) 0)
theorem laws_szEntryS.mono_l : ∀ k, (∀ y0 y1 y2, LeO (laws_szEntryS.l0 k y0 y1 y2) (laws_szEntryS.l0 (k + 1) y0 y1 y2))
 | 0 => fun _ _ _ r h => by simp [laws_szEntryS.l0] at h
 | k + 1 => by
      have ih0 := laws_szEntryS.mono_l k
      {
      intro y0 y1 y2
      unfold laws_szEntryS.l0
      repeat' first
      | (with_reducible exact ih0 _ _ _)
      | (with_reducible exact LeO.refl _)
      | (with_reducible exact LeO.none _)
      | (with_reducible refine LeO.ite ?_ ?_)
      | (with_reducible refine LeO.bind ?_ (fun _ => ?_))
      | exact ih0 _ _ _
      | exact LeO.none _
      | refine LeO.ite ?_ ?_
      | refine LeO.bind ?_ (fun _ => ?_)}
theorem laws_szEntryS.mono : ∀ a0 a1 k, LeO (laws_szEntryS.f k a0 a1) (laws_szEntryS.f (k + 1) a0 a1) := by
 intro a0 a1 k
 have ih0 := laws_szEntryS.mono_l k
 unfold laws_szEntryS.f
 repeat' first
  | (with_reducible exact ih0 _ _ _)
  | (with_reducible exact LeO.refl _)
  | (with_reducible exact LeO.none _)
  | (with_reducible refine LeO.ite ?_ ?_)
  | (with_reducible refine LeO.bind ?_ (fun _ => ?_))
  | exact ih0 _ _ _
  | exact LeO.none _
  | refine LeO.ite ?_ ?_
  | refine LeO.bind ?_ (fun _ => ?_)
theorem laws_szEntryS.calls (k : Nat) (A0 : Option Addr) (c0 : Nat) (l0 : List (S70)) (a1 : Int) (r : Int) (w : World) (hr0 : Kd.C k70 w A0 l0.length l0) (hc0 : l0.length ≤ c0) (h : laws_szEntryS.f k l0 a1 = some r) :
 Calls Tryz.prog 19 #[.slice A0 l0.length c0, .int .i64 a1] w fun e w' => e = .returned (.int .i64 r) ∧ Below w.heap.size w w' := by
 have hu70 := Tryz.underlying70
 have HR0 := Aside0.mk hr0
 have HC0 := Aside0.mk hc0
 clear hr0 hc0
 have HB := Aside0.mk (Below.refl w.heap.size w)
 have H : (if (wrap64 (a1 - (l0.length : Int))) < 0 then (some (-1)) else (laws_szEntryS.l0 k l0 (wrap64 (a1 - (l0.length : Int))) 0)) = some r := h
 clear h
 by_cases c3 : (wrap64 (a1 - (l0.length : Int))) < 0
 {
 rw [if_pos c3] at H
 have c3b0 := decide_eq_true c3
 clear c3
 obtain rfl := Option.some.inj H
 go_enter Tryz.func19, Tryz.ntmps19
 go_wp2
 go_ret
 exact ⟨eR_, bw_ HB⟩}
 {
 rw [if_neg c3] at H
 have c3b0 := decide_eq_false c3
 clear c3
 have H' := Aside0.mk H
 clear H
 go_enter Tryz.func19, Tryz.ntmps19
 go_wp2
 go_loopg [1, 5] k (fun kq v1 v5 w' => ∃ (x1_1 : Int) (x5_1 : Int), v1 = .int .i64 x1_1 ∧ v5 = .int .i64 x5_1 ∧ Aside0 (laws_szEntryS.l0 kq l0 x1_1 x5_1 = some r) ∧ Aside0 (kq ≤ k) ∧ Aside0 (Below w.heap.size w w'))
 case atStart => exact ⟨(wrap64 (a1 - (l0.length : Int))), (0), (by first | rfl | (simp; done) | (simp [*]; done)), (by first | rfl | (simp; done) | (simp [*]; done)), H', ⟨Nat.le_refl _⟩, ⟨bw_ HB⟩⟩
 case round =>
  clear H'
  try clear c1
  try clear p2
  try clear c3
  try clear c3b0
  obtain ⟨x1_1, x5_1, rfl, rfl, HA, HK1, HB⟩ := hrel
  cases gk with
  | zero => exact absurd HA.out (by simp [laws_szEntryS.l0])
  | succ k1 =>
       have H := HA.out
       clear HA
       simp only [laws_szEntryS.l0] at H
       by_cases c4 : x5_1 < (l0.length : Int)
       {
       rw [if_pos c4] at H
       have c4b0 := decide_eq_true c4
       clear c4
       by_cases c5 : 0 ≤ x5_1
       {
       rw [if_pos c5] at H
       have c5b0 := decide_eq_true c5
       clear c5
       replace H := Option.bind_eq_some_iff.mp H
       obtain ⟨t103, A60, H⟩ := H
       have A6 := Aside0.mk A60
       clear A60
       by_cases c7 : t103 < 0
       {
       rw [if_pos c7] at H
       have c7b0 := decide_eq_true c7
       clear c7
       obtain rfl := Option.some.inj H
       have p102 : 0 ≤ (x5_1 : Int) := dA_
       have q102 : x5_1 < (l0.length : Int) := dA_
       obtain ⟨ad102, e102, hx102_0, hx102_1, hx102_2, hx102_3⟩ := at_T70 HR0.out x5_1 p102 q102
       cases e102
       replace hx102_0 := hX_ HB hx102_0
       replace hx102_1 := hX_ HB hx102_1
       replace hx102_2 := hX_ HB hx102_2
       replace hx102_3 := hX_ HB hx102_3
       replace p102 := eq_true p102
       replace q102 := eq_true q102
       go_wp2_with (first | ((with_reducible refine gate_callee (f := 42) rfl ?_); refine gL_ (some 23) Tryz.func42 #[.agg #[.string ((rd_T70 l0 x5_1).f0), .int .i64 ((rd_T70 l0 x5_1).f1), .string ((rd_T70 l0 x5_1).f2), .bool ((rd_T70 l0 x5_1).f3)], .int .i64 x1_1] ?_; (with_reducible refine (laws_szEntry.calls ((rd_T70 l0 x5_1).f0) ((rd_T70 l0 x5_1).f1) ((rd_T70 l0 x5_1).f2) ((rd_T70 l0 x5_1).f3) x1_1 t103 _ A6.out).mono ?_); rintro e w8 ⟨rfl, hb⟩; refine ⟨_, rfl, ?_⟩; replace HB := Aside0.mk (below_step (bw_ HB) hb); clear hb))
       go_ret
       exact ⟨eR_, bw_ HB⟩}
       {
       rw [if_neg c7] at H
       have c7b0 := decide_eq_false c7
       clear c7
       have H' := Aside0.mk H
       clear H
       have p102 : 0 ≤ (x5_1 : Int) := dA_
       have q102 : x5_1 < (l0.length : Int) := dA_
       obtain ⟨ad102, e102, hx102_0, hx102_1, hx102_2, hx102_3⟩ := at_T70 HR0.out x5_1 p102 q102
       cases e102
       replace hx102_0 := hX_ HB hx102_0
       replace hx102_1 := hX_ HB hx102_1
       replace hx102_2 := hX_ HB hx102_2
       replace hx102_3 := hX_ HB hx102_3
       replace p102 := eq_true p102
       replace q102 := eq_true q102
       go_wp2_with (first | ((with_reducible refine gate_callee (f := 42) rfl ?_); refine gL_ (some 23) Tryz.func42 #[.agg #[.string ((rd_T70 l0 x5_1).f0), .int .i64 ((rd_T70 l0 x5_1).f1), .string ((rd_T70 l0 x5_1).f2), .bool ((rd_T70 l0 x5_1).f3)], .int .i64 x1_1] ?_; (with_reducible refine (laws_szEntry.calls ((rd_T70 l0 x5_1).f0) ((rd_T70 l0 x5_1).f1) ((rd_T70 l0 x5_1).f2) ((rd_T70 l0 x5_1).f3) x1_1 t103 _ A6.out).mono ?_); rintro e w9 ⟨rfl, hb⟩; refine ⟨_, rfl, ?_⟩; replace HB := Aside0.mk (below_step (bw_ HB) hb); clear hb))
       go_roundg k1
       case measure => have := HK1.out; omega
       case rel => exact ⟨(t103), (wrap64 (x5_1 + 1)), (by first | rfl | (simp; done) | (simp [*]; done)), (by first | rfl | (simp; done) | (simp [*]; done)), H', ⟨by have := HK1.out; omega⟩, ⟨bw_ HB⟩⟩}}
       {
       rw [if_neg c5] at H
       exact absurd H (by simp)}}
       {
       rw [if_neg c4] at H
       have c4b0 := decide_eq_false c4
       clear c4
       obtain rfl := Option.some.inj H
       go_wp2
       go_ret
       exact ⟨eR_, bw_ HB⟩
}}
def laws_szStringS.l0 : Nat → List ByteArray → Int → Int → Option (Int)
 | 0, _, _, _ => none
 | k + 1, x0, x1, x5 => if x5 < (x0.length : Int) then (if 0 ≤ x5 then (if (wrap64 (x1 - ((rdOf ByteArray.empty x0 x5).size : Int))) < 0 then (some (-1)) else (laws_szStringS.l0 k x0 (wrap64 (x1 - ((rdOf ByteArray.empty x0 x5).size : Int))) (wrap64 (x5 + 1)))) else (none)) else (some x1)
def laws_szStringS.f (k : Nat) (l0 : List ByteArray) (a1 : Int) : Option (Int) := if (wrap64 (a1 - (l0.length : Int))) < 0 then (some (-1)) else (laws_szStringS.l0 k l0 (wrap64 (a1 - (l0.length : Int))) 0)
theorem laws_szStringS.mono_l : ∀ k, (∀ y0 y1 y2, LeO (laws_szStringS.l0 k y0 y1 y2) (laws_szStringS.l0 (k + 1) y0 y1 y2))
 | 0 => fun _ _ _ r h => by simp [laws_szStringS.l0] at h
 | k + 1 => by
      have ih0 := laws_szStringS.mono_l k
      {
      intro y0 y1 y2
      unfold laws_szStringS.l0
      repeat' first
      | (with_reducible exact ih0 _ _ _)
      | (with_reducible exact LeO.refl _)
      | (with_reducible exact LeO.none _)
      | (with_reducible refine LeO.ite ?_ ?_)
      | (with_reducible refine LeO.bind ?_ (fun _ => ?_))
      | exact ih0 _ _ _
      | exact LeO.none _
      | refine LeO.ite ?_ ?_
      | refine LeO.bind ?_ (fun _ => ?_)}
theorem laws_szStringS.mono : ∀ a0 a1 k, LeO (laws_szStringS.f k a0 a1) (laws_szStringS.f (k + 1) a0 a1) := by
 intro a0 a1 k
 have ih0 := laws_szStringS.mono_l k
 unfold laws_szStringS.f
 repeat' first
  | (with_reducible exact ih0 _ _ _)
  | (with_reducible exact LeO.refl _)
  | (with_reducible exact LeO.none _)
  | (with_reducible refine LeO.ite ?_ ?_)
  | (with_reducible refine LeO.bind ?_ (fun _ => ?_))
  | exact ih0 _ _ _
  | exact LeO.none _
  | refine LeO.ite ?_ ?_
  | refine LeO.bind ?_ (fun _ => ?_)
theorem laws_szStringS.calls (k : Nat) (A0 : Option Addr) (c0 : Nat) (l0 : List ByteArray) (a1 : Int) (r : Int) (w : World) (hr0 : Kd.C Kd.string w A0 l0.length l0) (hc0 : l0.length ≤ c0) (h : laws_szStringS.f k l0 a1 = some r) :
 Calls Tryz.prog 26 #[.slice A0 l0.length c0, .int .i64 a1] w fun e w' => e = .returned (.int .i64 r) ∧ Drawn0 w w' := by
 have HR0 := Aside0.mk hr0
 have HC0 := Aside0.mk hc0
 clear hr0 hc0
 have H : (if (wrap64 (a1 - (l0.length : Int))) < 0 then (some (-1)) else (laws_szStringS.l0 k l0 (wrap64 (a1 - (l0.length : Int))) 0)) = some r := h
 clear h
 by_cases c3 : (wrap64 (a1 - (l0.length : Int))) < 0
 {
 rw [if_pos c3] at H
 have c3b0 := decide_eq_true c3
 clear c3
 obtain rfl := Option.some.inj H
 go_enter Tryz.func26, Tryz.ntmps26
 go_wp2
 go_ret
 exact ⟨eS_, dR_⟩}
 {
 rw [if_neg c3] at H
 have c3b0 := decide_eq_false c3
 clear c3
 have H' := Aside0.mk H
 clear H
 go_enter Tryz.func26, Tryz.ntmps26
 go_wp2
 go_loopg [1, 5] k (fun kq v1 v5 w' => ∃ (x1_1 : Int) (x5_1 : Int), v1 = .int .i64 x1_1 ∧ v5 = .int .i64 x5_1 ∧ Aside0 (laws_szStringS.l0 kq l0 x1_1 x5_1 = some r) ∧ Aside0 (kq ≤ k) ∧ Drawn0 w w')
 case atStart => exact ⟨(wrap64 (a1 - (l0.length : Int))), (0), (by first | rfl | (simp; done) | (simp [*]; done)), (by first | rfl | (simp; done) | (simp [*]; done)), H', ⟨Nat.le_refl _⟩, dR_⟩
 case round =>
  clear H'
  try clear c2
  try clear p2
  try clear c3
  try clear c3b0
  obtain ⟨x1_1, x5_1, rfl, rfl, HA, HK1, ⟨m1, rfl⟩⟩ := hrel
  cases gk with
  | zero => exact absurd HA.out (by simp [laws_szStringS.l0])
  | succ k1 =>
       have H := HA.out
       clear HA
       simp only [laws_szStringS.l0] at H
       by_cases c4 : x5_1 < (l0.length : Int)
       {
       rw [if_pos c4] at H
       have c4b0 := decide_eq_true c4
       clear c4
       by_cases c5 : 0 ≤ x5_1
       {
       rw [if_pos c5] at H
       have c5b0 := decide_eq_true c5
       clear c5
       by_cases c6 : (wrap64 (x1_1 - ((rdOf ByteArray.empty l0 x5_1).size : Int))) < 0
       {
       rw [if_pos c6] at H
       have c6b0 := decide_eq_true c6
       clear c6
       obtain rfl := Option.some.inj H
       have p104 : 0 ≤ (x5_1 : Int) := dA_
       have q104 : x5_1 < (l0.length : Int) := dA_
       obtain ⟨ad104, e104, hx104_0⟩ := Kd.at_string HR0.out x5_1 p104 q104
       cases e104
       replace p104 := eq_true p104
       replace q104 := eq_true q104
       go_wp2
       go_ret
       exact ⟨eS_, dR_⟩}
       {
       rw [if_neg c6] at H
       have c6b0 := decide_eq_false c6
       clear c6
       have H' := Aside0.mk H
       clear H
       have p104 : 0 ≤ (x5_1 : Int) := dA_
       have q104 : x5_1 < (l0.length : Int) := dA_
       obtain ⟨ad104, e104, hx104_0⟩ := Kd.at_string HR0.out x5_1 p104 q104
       cases e104
       replace p104 := eq_true p104
       replace q104 := eq_true q104
       go_wp2
       go_roundg k1
       case measure => have := HK1.out; omega
       case rel => exact ⟨(wrap64 (x1_1 - ((rdOf ByteArray.empty l0 x5_1).size : Int))), (wrap64 (x5_1 + 1)), (by first | rfl | (simp; done) | (simp [*]; done)), (by first | rfl | (simp; done) | (simp [*]; done)), H', ⟨by have := HK1.out; omega⟩, dR_⟩}}
       {
       rw [if_neg c5] at H
       exact absurd H (by simp)}}
       {
       rw [if_neg c4] at H
       have c4b0 := decide_eq_false c4
       clear c4
       obtain rfl := Option.some.inj H
       go_wp2
       go_ret
       exact ⟨eS_, dR_⟩
}}
def laws_szItem.f (k : Nat) (a0_0 : ByteArray) (a0_1 : ByteArray) (l0_2 : List ByteArray) (a0_3 : ByteArray) (l0_4 : List (S70)) (a1 : Int) : Option (Int) := if (wrap64 (a1 - (a0_0.size : Int))) < 0 then (some (-1)) else (if (wrap64 ((wrap64 (a1 - (a0_0.size : Int))) - (a0_1.size : Int))) < 0 then (some (-1)) else ((laws_szStringS.f k l0_2 (wrap64 ((wrap64 (a1 - (a0_0.size : Int))) - (a0_1.size : Int)))).bind fun t106 => (if t106 < 0 then (some (-1)) else (if (wrap64 (t106 - (a0_3.size : Int))) < 0 then (some (-1)) else ((laws_szEntryS.f k l0_4 (wrap64 (t106 - (a0_3.size : Int)))).bind fun t107 => (if t107 < 0 then (some (-1)) else (some t107)))))))
theorem laws_szItem.mono : ∀ a0 a1 a2 a3 a4 a5 k, LeO (laws_szItem.f k a0 a1 a2 a3 a4 a5) (laws_szItem.f (k + 1) a0 a1 a2 a3 a4 a5) := by
 intro a0 a1 a2 a3 a4 a5 k
 unfold laws_szItem.f
 repeat' first
  | (with_reducible exact laws_szEntryS.mono _ _ _)
  | (with_reducible exact laws_szStringS.mono _ _ _)
  | (with_reducible exact LeO.refl _)
  | (with_reducible exact LeO.none _)
  | (with_reducible refine LeO.ite ?_ ?_)
  | (with_reducible refine LeO.bind ?_ (fun _ => ?_))
  | exact laws_szEntryS.mono _ _ _
  | exact laws_szStringS.mono _ _ _
  | exact LeO.none _
  | refine LeO.ite ?_ ?_
  | refine LeO.bind ?_ (fun _ => ?_)
theorem laws_szItem.calls (k : Nat) (a0_0 : ByteArray) (a0_1 : ByteArray) (A0_2 : Option Addr) (c0_2 : Nat) (l0_2 : List ByteArray) (a0_3 : ByteArray) (A0_4 : Option Addr) (c0_4 : Nat) (l0_4 : List (S70)) (a1 : Int) (r : Int) (w : World) (hr0_2 : Kd.C Kd.string w A0_2 l0_2.length l0_2) (hc0_2 : l0_2.length ≤ c0_2) (hr0_4 : Kd.C k70 w A0_4 l0_4.length l0_4) (hc0_4 : l0_4.length ≤ c0_4) (h : laws_szItem.f k a0_0 a0_1 l0_2 a0_3 l0_4 a1 = some r) :
 Calls Tryz.prog 32 #[.agg #[.string a0_0, .string a0_1, .slice A0_2 l0_2.length c0_2, .string a0_3, .slice A0_4 l0_4.length c0_4], .int .i64 a1] w fun e w' => e = .returned (.int .i64 r) ∧ Below w.heap.size w w' := by
 have hu52 := Tryz.underlying52
 have HR0_2 := Aside0.mk hr0_2
 have HC0_2 := Aside0.mk hc0_2
 clear hr0_2 hc0_2
 have HR0_4 := Aside0.mk hr0_4
 have HC0_4 := Aside0.mk hc0_4
 clear hr0_4 hc0_4
 have HB := Aside0.mk (Below.refl w.heap.size w)
 have H : (if (wrap64 (a1 - (a0_0.size : Int))) < 0 then (some (-1)) else (if (wrap64 ((wrap64 (a1 - (a0_0.size : Int))) - (a0_1.size : Int))) < 0 then (some (-1)) else ((laws_szStringS.f k l0_2 (wrap64 ((wrap64 (a1 - (a0_0.size : Int))) - (a0_1.size : Int)))).bind fun t106 => (if t106 < 0 then (some (-1)) else (if (wrap64 (t106 - (a0_3.size : Int))) < 0 then (some (-1)) else ((laws_szEntryS.f k l0_4 (wrap64 (t106 - (a0_3.size : Int)))).bind fun t107 => (if t107 < 0 then (some (-1)) else (some t107)))))))) = some r := h
 clear h
 by_cases c3 : (wrap64 (a1 - (a0_0.size : Int))) < 0
 {
 rw [if_pos c3] at H
 have c3b0 := decide_eq_true c3
 clear c3
 obtain rfl := Option.some.inj H
 go_enter Tryz.func32, Tryz.ntmps32
 go_wp2_with (first | ((with_reducible refine gate_dst (N := 2) rfl ?_); refine bE_ 2 #[.string a0_0, .string a0_1, .slice A0_2 l0_2.length c0_2, .string a0_3, .slice A0_4 l0_4.length c0_4] 52 ?_; intro gb105 hg w4 hbox hb; have BK105 := Aside0.mk (hbox); have GW105 := Aside0.mk (ge_ hg (bw_ HB)); have GE105 := Aside0.mk (ge_ hg (bw_ HB)); replace HB := Aside0.mk (below_step (bw_ HB) hb); clear hb hbox hg; have hcz5_0 := cz_ BK105 0 (.string a0_0); have hcz5_1 := cz_ BK105 1 (.string a0_1); have hcz5_2 := cz_ BK105 2 (.slice A0_2 l0_2.length c0_2); have hcz5_3 := cz_ BK105 3 (.string a0_3); have hcz5_4 := cz_ BK105 4 (.slice A0_4 l0_4.length c0_4); have hfz5_0 := blk_frozen BK105.out 0; have hfz5_1 := blk_frozen BK105.out 1; have hfz5_2 := blk_frozen BK105.out 2; have hfz5_3 := blk_frozen BK105.out 3; have hfz5_4 := blk_frozen BK105.out 4))
 go_ret
 exact ⟨eR_, bw1_ HB GE105⟩}
 {
 rw [if_neg c3] at H
 have c3b0 := decide_eq_false c3
 clear c3
 by_cases c6 : (wrap64 ((wrap64 (a1 - (a0_0.size : Int))) - (a0_1.size : Int))) < 0
 {
 rw [if_pos c6] at H
 have c6b0 := decide_eq_true c6
 clear c6
 obtain rfl := Option.some.inj H
 go_enter Tryz.func32, Tryz.ntmps32
 go_wp2_with (first | ((with_reducible refine gate_dst (N := 2) rfl ?_); refine bE_ 2 #[.string a0_0, .string a0_1, .slice A0_2 l0_2.length c0_2, .string a0_3, .slice A0_4 l0_4.length c0_4] 52 ?_; intro gb105 hg w7 hbox hb; have BK105 := Aside0.mk (hbox); have GW105 := Aside0.mk (ge_ hg (bw_ HB)); have GE105 := Aside0.mk (ge_ hg (bw_ HB)); replace HB := Aside0.mk (below_step (bw_ HB) hb); clear hb hbox hg; have hcz8_0 := cz_ BK105 0 (.string a0_0); have hcz8_1 := cz_ BK105 1 (.string a0_1); have hcz8_2 := cz_ BK105 2 (.slice A0_2 l0_2.length c0_2); have hcz8_3 := cz_ BK105 3 (.string a0_3); have hcz8_4 := cz_ BK105 4 (.slice A0_4 l0_4.length c0_4); have hfz8_0 := blk_frozen BK105.out 0; have hfz8_1 := blk_frozen BK105.out 1; have hfz8_2 := blk_frozen BK105.out 2; have hfz8_3 := blk_frozen BK105.out 3; have hfz8_4 := blk_frozen BK105.out 4))
 go_ret
 exact ⟨eR_, bw1_ HB GE105⟩}
 {
 rw [if_neg c6] at H
 have c6b0 := decide_eq_false c6
 clear c6
 replace H := Option.bind_eq_some_iff.mp H
 obtain ⟨t106, A90, H⟩ := H
 have A9 := Aside0.mk A90
 clear A90
 by_cases c10 : t106 < 0
 {
 rw [if_pos c10] at H
 have c10b0 := decide_eq_true c10
 clear c10
 obtain rfl := Option.some.inj H
 go_enter Tryz.func32, Tryz.ntmps32
 go_wp2_with (first | ((with_reducible refine gate_dst (N := 2) rfl ?_); refine bE_ 2 #[.string a0_0, .string a0_1, .slice A0_2 l0_2.length c0_2, .string a0_3, .slice A0_4 l0_4.length c0_4] 52 ?_; intro gb105 hg w11 hbox hb; have BK105 := Aside0.mk (hbox); have GW105 := Aside0.mk (ge_ hg (bw_ HB)); have GE105 := Aside0.mk (ge_ hg (bw_ HB)); replace HB := Aside0.mk (below_step (bw_ HB) hb); clear hb hbox hg; have hcz12_0 := cz_ BK105 0 (.string a0_0); have hcz12_1 := cz_ BK105 1 (.string a0_1); have hcz12_2 := cz_ BK105 2 (.slice A0_2 l0_2.length c0_2); have hcz12_3 := cz_ BK105 3 (.string a0_3); have hcz12_4 := cz_ BK105 4 (.slice A0_4 l0_4.length c0_4); have hfz12_0 := blk_frozen BK105.out 0; have hfz12_1 := blk_frozen BK105.out 1; have hfz12_2 := blk_frozen BK105.out 2; have hfz12_3 := blk_frozen BK105.out 3; have hfz12_4 := blk_frozen BK105.out 4) | ((with_reducible refine gate_callee (f := 26) rfl ?_); refine gL_ (some 22) Tryz.func26 #[.slice A0_2 l0_2.length c0_2, .int .i64 (wrap64 ((wrap64 (a1 - (a0_0.size : Int))) - (a0_1.size : Int)))] ?_; (with_reducible refine (laws_szStringS.calls k _ _ l0_2 (wrap64 ((wrap64 (a1 - (a0_0.size : Int))) - (a0_1.size : Int))) t106 _ ?side1 ?side2 A9.out).mono ?_); (case side1 => exact cS_ HR0_2 HB); (case side2 => exact HC0_2.out); rintro e w' ⟨rfl, ⟨nd, rfl⟩⟩; refine ⟨_, rfl, ?_⟩))
 go_ret
 exact ⟨eR_, bw1_ HB GE105⟩}
 {
 rw [if_neg c10] at H
 have c10b0 := decide_eq_false c10
 clear c10
 by_cases c13 : (wrap64 (t106 - (a0_3.size : Int))) < 0
 {
 rw [if_pos c13] at H
 have c13b0 := decide_eq_true c13
 clear c13
 obtain rfl := Option.some.inj H
 go_enter Tryz.func32, Tryz.ntmps32
 go_wp2_with (first | ((with_reducible refine gate_dst (N := 2) rfl ?_); refine bE_ 2 #[.string a0_0, .string a0_1, .slice A0_2 l0_2.length c0_2, .string a0_3, .slice A0_4 l0_4.length c0_4] 52 ?_; intro gb105 hg w14 hbox hb; have BK105 := Aside0.mk (hbox); have GW105 := Aside0.mk (ge_ hg (bw_ HB)); have GE105 := Aside0.mk (ge_ hg (bw_ HB)); replace HB := Aside0.mk (below_step (bw_ HB) hb); clear hb hbox hg; have hcz15_0 := cz_ BK105 0 (.string a0_0); have hcz15_1 := cz_ BK105 1 (.string a0_1); have hcz15_2 := cz_ BK105 2 (.slice A0_2 l0_2.length c0_2); have hcz15_3 := cz_ BK105 3 (.string a0_3); have hcz15_4 := cz_ BK105 4 (.slice A0_4 l0_4.length c0_4); have hfz15_0 := blk_frozen BK105.out 0; have hfz15_1 := blk_frozen BK105.out 1; have hfz15_2 := blk_frozen BK105.out 2; have hfz15_3 := blk_frozen BK105.out 3; have hfz15_4 := blk_frozen BK105.out 4) | ((with_reducible refine gate_callee (f := 26) rfl ?_); refine gL_ (some 22) Tryz.func26 #[.slice A0_2 l0_2.length c0_2, .int .i64 (wrap64 ((wrap64 (a1 - (a0_0.size : Int))) - (a0_1.size : Int)))] ?_; (with_reducible refine (laws_szStringS.calls k _ _ l0_2 (wrap64 ((wrap64 (a1 - (a0_0.size : Int))) - (a0_1.size : Int))) t106 _ ?side1 ?side2 A9.out).mono ?_); (case side1 => exact cS_ HR0_2 HB); (case side2 => exact HC0_2.out); rintro e w' ⟨rfl, ⟨nd, rfl⟩⟩; refine ⟨_, rfl, ?_⟩))
 go_ret
 exact ⟨eR_, bw1_ HB GE105⟩}
 {
 rw [if_neg c13] at H
 have c13b0 := decide_eq_false c13
 clear c13
 replace H := Option.bind_eq_some_iff.mp H
 obtain ⟨t107, A160, H⟩ := H
 have A16 := Aside0.mk A160
 clear A160
 by_cases c17 : t107 < 0
 {
 rw [if_pos c17] at H
 have c17b0 := decide_eq_true c17
 clear c17
 obtain rfl := Option.some.inj H
 go_enter Tryz.func32, Tryz.ntmps32
 go_wp2_with (first | ((with_reducible refine gate_dst (N := 2) rfl ?_); refine bE_ 2 #[.string a0_0, .string a0_1, .slice A0_2 l0_2.length c0_2, .string a0_3, .slice A0_4 l0_4.length c0_4] 52 ?_; intro gb105 hg w18 hbox hb; have BK105 := Aside0.mk (hbox); have GW105 := Aside0.mk (ge_ hg (bw_ HB)); have GE105 := Aside0.mk (ge_ hg (bw_ HB)); replace HB := Aside0.mk (below_step (bw_ HB) hb); clear hb hbox hg; have hcz19_0 := cz_ BK105 0 (.string a0_0); have hcz19_1 := cz_ BK105 1 (.string a0_1); have hcz19_2 := cz_ BK105 2 (.slice A0_2 l0_2.length c0_2); have hcz19_3 := cz_ BK105 3 (.string a0_3); have hcz19_4 := cz_ BK105 4 (.slice A0_4 l0_4.length c0_4); have hfz19_0 := blk_frozen BK105.out 0; have hfz19_1 := blk_frozen BK105.out 1; have hfz19_2 := blk_frozen BK105.out 2; have hfz19_3 := blk_frozen BK105.out 3; have hfz19_4 := blk_frozen BK105.out 4) | ((with_reducible refine gate_callee (f := 26) rfl ?_); refine gL_ (some 22) Tryz.func26 #[.slice A0_2 l0_2.length c0_2, .int .i64 (wrap64 ((wrap64 (a1 - (a0_0.size : Int))) - (a0_1.size : Int)))] ?_; (with_reducible refine (laws_szStringS.calls k _ _ l0_2 (wrap64 ((wrap64 (a1 - (a0_0.size : Int))) - (a0_1.size : Int))) t106 _ ?side1 ?side2 A9.out).mono ?_); (case side1 => exact cS_ HR0_2 HB); (case side2 => exact HC0_2.out); rintro e w' ⟨rfl, ⟨nd, rfl⟩⟩; refine ⟨_, rfl, ?_⟩) | ((with_reducible refine gate_callee (f := 19) rfl ?_); refine gL_ (some 35) Tryz.func19 #[.slice A0_4 l0_4.length c0_4, .int .i64 (wrap64 (t106 - (a0_3.size : Int)))] ?_; (with_reducible refine (laws_szEntryS.calls k _ _ l0_4 (wrap64 (t106 - (a0_3.size : Int))) t107 _ ?side1 ?side2 A16.out).mono ?_); (case side1 => repeat (first | exact (Kd.C_below HR0_4.out (bw1_ HB GE105)) | (with_reducible refine Kd.C_alloc ?_ _) | (with_reducible refine Kd.C_drewN ?_ _) | (with_reducible refine Kd.C_drew ?_))); (case side2 => exact HC0_4.out); rintro e w20 ⟨rfl, hb⟩; refine ⟨_, rfl, ?_⟩; replace BK105 := Aside0.mk (blk_below (bk_ BK105) hb); replace HB := Aside0.mk (below_step (bw1_ HB GE105) hb); clear hb))
 go_ret
 exact ⟨eR_, bw1_ HB GE105⟩}
 {
 rw [if_neg c17] at H
 have c17b0 := decide_eq_false c17
 clear c17
 obtain rfl := Option.some.inj H
 go_enter Tryz.func32, Tryz.ntmps32
 go_wp2_with (first | ((with_reducible refine gate_dst (N := 2) rfl ?_); refine bE_ 2 #[.string a0_0, .string a0_1, .slice A0_2 l0_2.length c0_2, .string a0_3, .slice A0_4 l0_4.length c0_4] 52 ?_; intro gb105 hg w21 hbox hb; have BK105 := Aside0.mk (hbox); have GW105 := Aside0.mk (ge_ hg (bw_ HB)); have GE105 := Aside0.mk (ge_ hg (bw_ HB)); replace HB := Aside0.mk (below_step (bw_ HB) hb); clear hb hbox hg; have hcz22_0 := cz_ BK105 0 (.string a0_0); have hcz22_1 := cz_ BK105 1 (.string a0_1); have hcz22_2 := cz_ BK105 2 (.slice A0_2 l0_2.length c0_2); have hcz22_3 := cz_ BK105 3 (.string a0_3); have hcz22_4 := cz_ BK105 4 (.slice A0_4 l0_4.length c0_4); have hfz22_0 := blk_frozen BK105.out 0; have hfz22_1 := blk_frozen BK105.out 1; have hfz22_2 := blk_frozen BK105.out 2; have hfz22_3 := blk_frozen BK105.out 3; have hfz22_4 := blk_frozen BK105.out 4) | ((with_reducible refine gate_callee (f := 26) rfl ?_); refine gL_ (some 22) Tryz.func26 #[.slice A0_2 l0_2.length c0_2, .int .i64 (wrap64 ((wrap64 (a1 - (a0_0.size : Int))) - (a0_1.size : Int)))] ?_; (with_reducible refine (laws_szStringS.calls k _ _ l0_2 (wrap64 ((wrap64 (a1 - (a0_0.size : Int))) - (a0_1.size : Int))) t106 _ ?side1 ?side2 A9.out).mono ?_); (case side1 => exact cS_ HR0_2 HB); (case side2 => exact HC0_2.out); rintro e w' ⟨rfl, ⟨nd, rfl⟩⟩; refine ⟨_, rfl, ?_⟩) | ((with_reducible refine gate_callee (f := 19) rfl ?_); refine gL_ (some 35) Tryz.func19 #[.slice A0_4 l0_4.length c0_4, .int .i64 (wrap64 (t106 - (a0_3.size : Int)))] ?_; (with_reducible refine (laws_szEntryS.calls k _ _ l0_4 (wrap64 (t106 - (a0_3.size : Int))) t107 _ ?side1 ?side2 A16.out).mono ?_); (case side1 => repeat (first | exact (Kd.C_below HR0_4.out (bw1_ HB GE105)) | (with_reducible refine Kd.C_alloc ?_ _) | (with_reducible refine Kd.C_drewN ?_ _) | (with_reducible refine Kd.C_drew ?_))); (case side2 => exact HC0_4.out); rintro e w23 ⟨rfl, hb⟩; refine ⟨_, rfl, ?_⟩; replace BK105 := Aside0.mk (blk_below (bk_ BK105) hb); replace HB := Aside0.mk (below_step (bw1_ HB GE105) hb); clear hb))
 go_ret
 exact ⟨eR_, bw1_ HB GE105⟩
}}}}}
def laws_szItemS.l0 : Nat → List (S52) → Int → Int → Option (Int)
 | 0, _, _, _ => none
 | k + 1, x0, x1, x5 => if x5 < (x0.length : Int) then (if 0 ≤ x5 then ((laws_szItem.f k ((rd_T52 x0 x5).f0) ((rd_T52 x0 x5).f1) ((rd_T52 x0 x5).f2) ((rd_T52 x0 x5).f3) ((rd_T52 x0 x5).f4) x1).bind fun t109 => (if t109 < 0 then (some (-1)) else (laws_szItemS.l0 k x0 t109 (wrap64 (x5 + 1))))) else (none)) else (some x1)
def laws_szItemS.f (k : Nat) (l0 : List (S52)) (a1 : Int) : Option (Int) := if (wrap64 (a1 - (l0.length : Int))) < 0 then (some (-1)) else (laws_szItemS.l0 k l0 (wrap64 (a1 - (l0.length : Int))) 0)
theorem laws_szItemS.mono_l : ∀ k, (∀ y0 y1 y2, LeO (laws_szItemS.l0 k y0 y1 y2) (laws_szItemS.l0 (k + 1) y0 y1 y2))
 | 0 => fun _ _ _ r h => by simp [laws_szItemS.l0] at h
 | k + 1 => by
      have ih0 := laws_szItemS.mono_l k
      {
      intro y0 y1 y2
      unfold laws_szItemS.l0
      repeat' first
      | (with_reducible exact ih0 _ _ _)
      | (with_reducible exact laws_szItem.mono _ _ _ _ _ _ _)
      | (with_reducible exact LeO.refl _)
      | (with_reducible exact LeO.none _)
      | (with_reducible refine LeO.ite ?_ ?_)
      | (with_reducible refine LeO.bind ?_ (fun _ => ?_))
      | exact ih0 _ _ _
      | exact laws_szItem.mono _ _ _ _ _ _ _
      | exact LeO.none _
      | refine LeO.ite ?_ ?_
      | refine LeO.bind ?_ (fun _ => ?_)}
theorem laws_szItemS.mono : ∀ a0 a1 k, LeO (laws_szItemS.f k a0 a1) (laws_szItemS.f (k + 1) a0 a1) := by
 intro a0 a1 k
 have ih0 := laws_szItemS.mono_l k
 unfold laws_szItemS.f
 repeat' first
  | (with_reducible exact ih0 _ _ _)
  | (with_reducible exact laws_szItem.mono _ _ _ _ _ _ _)
  | (with_reducible exact LeO.refl _)
  | (with_reducible exact LeO.none _)
  | (with_reducible refine LeO.ite ?_ ?_)
  | (with_reducible refine LeO.bind ?_ (fun _ => ?_))
  | exact ih0 _ _ _
  | exact laws_szItem.mono _ _ _ _ _ _ _
  | exact LeO.none _
  | refine LeO.ite ?_ ?_
  | refine LeO.bind ?_ (fun _ => ?_)
theorem laws_szItemS.calls (k : Nat) (A0 : Option Addr) (c0 : Nat) (l0 : List (S52)) (a1 : Int) (r : Int) (w : World) (hr0 : Kd.C k52 w A0 l0.length l0) (hc0 : l0.length ≤ c0) (h : laws_szItemS.f k l0 a1 = some r) :
 Calls Tryz.prog 8 #[.slice A0 l0.length c0, .int .i64 a1] w fun e w' => e = .returned (.int .i64 r) ∧ Below w.heap.size w w' := by
 have hu52 := Tryz.underlying52
 have HR0 := Aside0.mk hr0
 have HC0 := Aside0.mk hc0
 clear hr0 hc0
 have HB := Aside0.mk (Below.refl w.heap.size w)
 have H : (if (wrap64 (a1 - (l0.length : Int))) < 0 then (some (-1)) else (laws_szItemS.l0 k l0 (wrap64 (a1 - (l0.length : Int))) 0)) = some r := h
 clear h
 by_cases c3 : (wrap64 (a1 - (l0.length : Int))) < 0
 {
 rw [if_pos c3] at H
 have c3b0 := decide_eq_true c3
 clear c3
 obtain rfl := Option.some.inj H
 go_enter Tryz.func8, Tryz.ntmps8
 go_wp2
 go_ret
 exact ⟨eR_, bw_ HB⟩}
 {
 rw [if_neg c3] at H
 have c3b0 := decide_eq_false c3
 clear c3
 have H' := Aside0.mk H
 clear H
 go_enter Tryz.func8, Tryz.ntmps8
 go_wp2
 go_loopg [1, 5] k (fun kq v1 v5 w' => ∃ (x1_1 : Int) (x5_1 : Int), v1 = .int .i64 x1_1 ∧ v5 = .int .i64 x5_1 ∧ Aside0 (laws_szItemS.l0 kq l0 x1_1 x5_1 = some r) ∧ Aside0 (kq ≤ k) ∧ Aside0 (Below w.heap.size w w'))
 case atStart => exact ⟨(wrap64 (a1 - (l0.length : Int))), (0), (by first | rfl | (simp; done) | (simp [*]; done)), (by first | rfl | (simp; done) | (simp [*]; done)), H', ⟨Nat.le_refl _⟩, ⟨bw_ HB⟩⟩
 case round =>
  clear H'
  try clear p2
  try clear c3
  try clear c3b0
  obtain ⟨x1_1, x5_1, rfl, rfl, HA, HK1, HB⟩ := hrel
  cases gk with
  | zero => exact absurd HA.out (by simp [laws_szItemS.l0])
  | succ k1 =>
       have H := HA.out
       clear HA
       simp only [laws_szItemS.l0] at H
       by_cases c4 : x5_1 < (l0.length : Int)
       {
       rw [if_pos c4] at H
       have c4b0 := decide_eq_true c4
       clear c4
       by_cases c5 : 0 ≤ x5_1
       {
       rw [if_pos c5] at H
       have c5b0 := decide_eq_true c5
       clear c5
       replace H := Option.bind_eq_some_iff.mp H
       obtain ⟨t109, A60, H⟩ := H
       have A6 := Aside0.mk A60
       clear A60
       by_cases c7 : t109 < 0
       {
       rw [if_pos c7] at H
       have c7b0 := decide_eq_true c7
       clear c7
       obtain rfl := Option.some.inj H
       have p108 : 0 ≤ (x5_1 : Int) := dA_
       have q108 : x5_1 < (l0.length : Int) := dA_
       obtain ⟨ad108, A108_2, c108_2, A108_4, c108_4, e108, hx108_0, hx108_1, hx108_2, hx108_3, hx108_4, hl108_2, hi108_2, hl108_4, hi108_4⟩ := at_T52 HR0.out x5_1 p108 q108
       cases e108
       replace hx108_0 := hX_ HB hx108_0
       replace hx108_1 := hX_ HB hx108_1
       replace hx108_2 := hX_ HB hx108_2
       replace hx108_3 := hX_ HB hx108_3
       replace hx108_4 := hX_ HB hx108_4
       have HR108_2 := Aside0.mk hi108_2
       have HC108_2 := Aside0.mk hl108_2
       clear hi108_2 hl108_2
       have HR108_4 := Aside0.mk hi108_4
       have HC108_4 := Aside0.mk hl108_4
       clear hi108_4 hl108_4
       replace p108 := eq_true p108
       replace q108 := eq_true q108
       go_wp2_with (first | ((with_reducible refine gate_callee (f := 32) rfl ?_); refine gL_ (some 23) Tryz.func32 #[.agg #[.string ((rd_T52 l0 x5_1).f0), .string ((rd_T52 l0 x5_1).f1), .slice A108_2 ((rd_T52 l0 x5_1).f2).length c108_2, .string ((rd_T52 l0 x5_1).f3), .slice A108_4 ((rd_T52 l0 x5_1).f4).length c108_4], .int .i64 x1_1] ?_; (with_reducible refine (laws_szItem.calls k1 ((rd_T52 l0 x5_1).f0) ((rd_T52 l0 x5_1).f1) _ _ ((rd_T52 l0 x5_1).f2) ((rd_T52 l0 x5_1).f3) _ _ ((rd_T52 l0 x5_1).f4) x1_1 t109 _ ?side1 ?side2 ?side3 ?side4 A6.out).mono ?_); (case side1 => exact cS_ HR108_2 HB); (case side2 => exact HC108_2.out); (case side3 => exact cS_ HR108_4 HB); (case side4 => exact HC108_4.out); rintro e w8 ⟨rfl, hb⟩; refine ⟨_, rfl, ?_⟩; replace HB := Aside0.mk (below_step (bw_ HB) hb); clear hb))
       go_ret
       exact ⟨eR_, bw_ HB⟩}
       {
       rw [if_neg c7] at H
       have c7b0 := decide_eq_false c7
       clear c7
       have H' := Aside0.mk H
       clear H
       have p108 : 0 ≤ (x5_1 : Int) := dA_
       have q108 : x5_1 < (l0.length : Int) := dA_
       obtain ⟨ad108, A108_2, c108_2, A108_4, c108_4, e108, hx108_0, hx108_1, hx108_2, hx108_3, hx108_4, hl108_2, hi108_2, hl108_4, hi108_4⟩ := at_T52 HR0.out x5_1 p108 q108
       cases e108
       replace hx108_0 := hX_ HB hx108_0
       replace hx108_1 := hX_ HB hx108_1
       replace hx108_2 := hX_ HB hx108_2
       replace hx108_3 := hX_ HB hx108_3
       replace hx108_4 := hX_ HB hx108_4
       have HR108_2 := Aside0.mk hi108_2
       have HC108_2 := Aside0.mk hl108_2
       clear hi108_2 hl108_2
       have HR108_4 := Aside0.mk hi108_4
       have HC108_4 := Aside0.mk hl108_4
       clear hi108_4 hl108_4
       replace p108 := eq_true p108
       replace q108 := eq_true q108
       go_wp2_with (first | ((with_reducible refine gate_callee (f := 32) rfl ?_); refine gL_ (some 23) Tryz.func32 #[.agg #[.string ((rd_T52 l0 x5_1).f0), .string ((rd_T52 l0 x5_1).f1), .slice A108_2 ((rd_T52 l0 x5_1).f2).length c108_2, .string ((rd_T52 l0 x5_1).f3), .slice A108_4 ((rd_T52 l0 x5_1).f4).length c108_4], .int .i64 x1_1] ?_; (with_reducible refine (laws_szItem.calls k1 ((rd_T52 l0 x5_1).f0) ((rd_T52 l0 x5_1).f1) _ _ ((rd_T52 l0 x5_1).f2) ((rd_T52 l0 x5_1).f3) _ _ ((rd_T52 l0 x5_1).f4) x1_1 t109 _ ?side1 ?side2 ?side3 ?side4 A6.out).mono ?_); (case side1 => exact cS_ HR108_2 HB); (case side2 => exact HC108_2.out); (case side3 => exact cS_ HR108_4 HB); (case side4 => exact HC108_4.out); rintro e w9 ⟨rfl, hb⟩; refine ⟨_, rfl, ?_⟩; replace HB := Aside0.mk (below_step (bw_ HB) hb); clear hb))
       go_roundg k1
       case measure => have := HK1.out; omega
       case rel => exact ⟨(t109), (wrap64 (x5_1 + 1)), (by first | rfl | (simp; done) | (simp [*]; done)), (by first | rfl | (simp; done) | (simp [*]; done)), H', ⟨by have := HK1.out; omega⟩, ⟨bw_ HB⟩⟩}}
       {
       rw [if_neg c5] at H
       exact absurd H (by simp)}}
       {
       rw [if_neg c4] at H
       have c4b0 := decide_eq_false c4
       (try (have c4b0' := c4b0; simp only [hl108_4] at c4b0'))
       clear c4
       obtain rfl := Option.some.inj H
       go_wp2
       go_ret
       exact ⟨eR_, bw_ HB⟩
}}
def spec_l12Paths.l0 : Nat → List (S55) → List ByteArray → Int → Option (List ByteArray)
 | 0, _, _, _ => none
 | k + 1, x0, x3, x4 => if x4 < (x0.length : Int) then (if 0 ≤ x4 then (if x3.length < 8796093022208 then (spec_l12Paths.l0 k x0 (x3 ++ [(rd_T55 x0 x4).f0]) (wrap64 (x4 + 1))) else (none)) else (none)) else (some x3)
def spec_l12Paths.f (k : Nat) (l0 : List (S55)) : Option (List ByteArray) := spec_l12Paths.l0 k l0 (([] : List ByteArray)) 0
theorem spec_l12Paths.calls (k : Nat) (A0 : Option Addr) (c0 : Nat) (l0 : List (S55)) (r : List ByteArray) (w : World) (hr0 : Kd.C k55 w A0 l0.length l0) (hc0 : l0.length ≤ c0) (h : spec_l12Paths.f k l0 = some r) :
 Calls Tryz.prog 63 #[.slice A0 l0.length c0] w fun e w' => ∃ v0_ : Value, e = .returned (v0_) ∧ Kd.R Kd.string 9 w' w.heap.size (fun _ => True) v0_ r ∧ Below w.heap.size w w' := by
 have HR0 := Aside0.mk hr0
 have HC0 := Aside0.mk hc0
 clear hr0 hc0
 have HB := Aside0.mk (Below.refl w.heap.size w)
 have H : (spec_l12Paths.l0 k l0 (([] : List ByteArray)) 0) = some r := h
 clear h
 obtain ⟨y110, hy110⟩ : ∃ y_ : List ByteArray, y_ = (([] : List ByteArray)) := ⟨_, rfl⟩
 replace H : (spec_l12Paths.l0 k l0 y110 0) = some r := rH_ hy110 H
 have Ny110 := Aside0.mk hy110
 clear hy110
 have H' := Aside0.mk H
 clear H
 go_enter Tryz.func63, Tryz.ntmps63
 go_wp2_with (first | ((with_reducible refine gate_dst (N := 5) rfl ?_); refine Kd.R_lit Kd.string _ 9 ?hg (N := 5) ?hd (xs := ([] : List ByteArray)) (inner := []) (ok := fun _ => True) (okp := fun _ => True) ?hr ?hp (fun _ hk => hk) trivial (Below.refl _ _) (Nat.le_refl _) (by simp) ?_; (case hd => rfl); (case hg => rfl); (case hr => first | (go_simp; done) | (go_simp; rfl)); (case hp => exact (Reps.none _ _)); intro v111 w2 ho3 hb hg_ hnew_; clear hg_ hnew_; (first | rw [← Ny110.out] at ho3 | (simp only [Int.reduceToNat] at ho3; rw [← Ny110.out] at ho3)); have HO112 := Aside0.mk (Kd.R_lower ho3 (below_size (bw_ HB))); replace HB := Aside0.mk (below_step (bw_ HB) hb); clear hb ho3))
 go_loopg [3, 4] k (fun kq v3 v4 w' => ∃ (x3_1 : List ByteArray) (x4_1 : Int), v4 = .int .i64 x4_1 ∧ Aside0 (spec_l12Paths.l0 kq l0 x3_1 x4_1 = some r) ∧ Aside0 (kq ≤ k) ∧ Aside0 (Kd.R Kd.string 9 w' w.heap.size (fun _ => True) v3 x3_1) ∧ Aside0 (Below w.heap.size w w'))
 case atStart => exact ⟨(y110), (0), (by first | rfl | (simp; done) | (simp [*]; done)), H', ⟨Nat.le_refl _⟩, ⟨kr_ HO112⟩, ⟨bw_ HB⟩⟩
 case round =>
  clear H'
  try clear p2
  obtain ⟨x3_1, x4_1, rfl, HA, HK1, HO_3, HB⟩ := hrel
  cases gk with
  | zero => exact absurd HA.out (by simp [spec_l12Paths.l0])
  | succ k1 =>
       have H := HA.out
       clear HA
       simp only [spec_l12Paths.l0] at H
       by_cases c4 : x4_1 < (l0.length : Int)
       {
       rw [if_pos c4] at H
       have c4b0 := decide_eq_true c4
       clear c4
       by_cases c5 : 0 ≤ x4_1
       {
       rw [if_pos c5] at H
       have c5b0 := decide_eq_true c5
       clear c5
       by_cases c6 : x3_1.length < 8796093022208
       {
       rw [if_pos c6] at H
       have LMc6 := Aside0.mk c6
       clear c6
       obtain ⟨y114, hy114⟩ : ∃ y_ : List ByteArray, y_ = (x3_1 ++ [(rd_T55 l0 x4_1).f0]) := ⟨_, rfl⟩
       replace H : (spec_l12Paths.l0 k1 l0 y114 (wrap64 (x4_1 + 1))) = some r := rH_ hy114 H
       have Ny114 := Aside0.mk hy114
       clear hy114
       have H' := Aside0.mk H
       clear H
       have p113 : 0 ≤ (x4_1 : Int) := dA_
       have q113 : x4_1 < (l0.length : Int) := dA_
       obtain ⟨ad113, A113_2, c113_2, A113_4, c113_4, e113, hx113_0, hx113_1, hx113_2, hx113_3, hx113_4, hl113_2, hi113_2, hl113_4, hi113_4⟩ := at_T55 HR0.out x4_1 p113 q113
       cases e113
       replace hx113_0 := hX_ HB hx113_0
       replace hx113_1 := hX_ HB hx113_1
       replace hx113_2 := hX_ HB hx113_2
       replace hx113_3 := hX_ HB hx113_3
       replace hx113_4 := hX_ HB hx113_4
       have HR113_2 := Aside0.mk hi113_2
       have HC113_2 := Aside0.mk hl113_2
       clear hi113_2 hl113_2
       have HR113_4 := Aside0.mk hi113_4
       have HC113_4 := Aside0.mk hl113_4
       clear hi113_4 hl113_4
       replace p113 := eq_true p113
       replace q113 := eq_true q113
       go_wp2_with (first | ((with_reducible refine gate_builtin (b := .append) (xs := #[.tmp 12, .tmp 18]) rfl ?_); at_builtin; refine Kd.R_append Kd.string (w0 := w) w.heap.size rfl (.tmp 12) (.tmp 18) 29 9 (.string ⟨#[]⟩) 16 rfl Tryz.underlying29 info9 rfl (by decide) (by omega) u3 x3_1 ((rd_T55 l0 x4_1).f0) [.string ((rd_T55 l0 x4_1).f0)] (fun _ => True) (fun _ => False) rfl rfl ?aP (fun _ hk => hk.elim) ?aF ?aO ?aB ?aS ?aL ?_; (case aP => exact rfl); (case aB => exact (bw_ HB)); (case aF => exact (fun _ _ => trivial)); (case aO => exact (kr_ HO_3)); (case aS => exact (below_size (bw_ HB))); (case aL => have := LMc6.out; omega); intro v115 w7 ho hb hg hat; rw [← Ny114.out] at ho; replace HB := Aside0.mk (hb); have HO116 := Aside0.mk (ho); clear HO_3; clear ho hb hg hat))
       go_roundg k1
       case measure => have := HK1.out; omega
       case rel => exact ⟨(y114), (wrap64 (x4_1 + 1)), (by first | rfl | (simp; done) | (simp [*]; done)), H', ⟨by have := HK1.out; omega⟩, ⟨kr_ HO116⟩, ⟨bw_ HB⟩⟩}
       {
       rw [if_neg c6] at H
       exact absurd H (by simp)}}
       {
       rw [if_neg c5] at H
       exact absurd H (by simp)}}
       {
       rw [if_neg c4] at H
       have c4b0 := decide_eq_false c4
       (try (have c4b0' := c4b0; simp only [hl113_4] at c4b0'))
       clear c4
       obtain rfl := Option.some.inj H
       go_wp2
       go_ret
       exact ⟨_, eR_, kr_ HO_3, bw_ HB⟩
}
def spec_l1Index.l0 : Nat → Int → Int → Option (Int)
 | 0, _, _ => none
 | k + 1, x0, x3 => if x3 < 32 then (if 0 ≤ x3 then (if (bt (⟨#[48, 49, 50, 51, 52, 53, 54, 55, 56, 57, 97, 98, 99, 100, 102, 103, 104, 105, 106, 107, 108, 109, 110, 112, 113, 114, 115, 118, 119, 120, 121, 122]⟩ : ByteArray) x3) = x0 then (some x3) else (spec_l1Index.l0 k x0 (wrap64 (x3 + 1)))) else (none)) else (some (-1))
def spec_l1Index.f (k : Nat) (a0 : Int) : Option (Int) := spec_l1Index.l0 k a0 0
theorem spec_l1Index.mono_l : ∀ k, (∀ y0 y1, LeO (spec_l1Index.l0 k y0 y1) (spec_l1Index.l0 (k + 1) y0 y1))
 | 0 => fun _ _ r h => by simp [spec_l1Index.l0] at h
 | k + 1 => by
      have ih0 := spec_l1Index.mono_l k
      {
      intro y0 y1
      unfold spec_l1Index.l0
      repeat' first
      | (with_reducible exact ih0 _ _)
      | (with_reducible exact LeO.refl _)
      | (with_reducible exact LeO.none _)
      | (with_reducible refine LeO.ite ?_ ?_)
      | (with_reducible refine LeO.bind ?_ (fun _ => ?_))
      | exact ih0 _ _
      | exact LeO.none _
      | refine LeO.ite ?_ ?_
      | refine LeO.bind ?_ (fun _ => ?_)}
theorem spec_l1Index.mono : ∀ a0 k, LeO (spec_l1Index.f k a0) (spec_l1Index.f (k + 1) a0) := by
 intro a0 k
 have ih0 := spec_l1Index.mono_l k
 unfold spec_l1Index.f
 repeat' first
  | (with_reducible exact ih0 _ _)
  | (with_reducible exact LeO.refl _)
  | (with_reducible exact LeO.none _)
  | (with_reducible refine LeO.ite ?_ ?_)
  | (with_reducible refine LeO.bind ?_ (fun _ => ?_))
  | exact ih0 _ _
  | exact LeO.none _
  | refine LeO.ite ?_ ?_
  | refine LeO.bind ?_ (fun _ => ?_)
theorem spec_l1Index.calls (k : Nat) (a0 : Int) (r : Int) (w : World) (h : spec_l1Index.f k a0 = some r) :
 Calls Tryz.prog 86 #[.int .u8 a0] w fun e w' => e = .returned (.int .i64 r) ∧ Drawn0 w w' := by
 have H : (spec_l1Index.l0 k a0 0) = some r := h
 clear h
 have H' := Aside0.mk H
 clear H
 go_enter Tryz.func86, Tryz.ntmps86
 go_wp2
 go_loopg [3] k (fun kq v3 w' => ∃ (x3_1 : Int), v3 = .int .i64 x3_1 ∧ Aside0 (spec_l1Index.l0 kq a0 x3_1 = some r) ∧ Aside0 (kq ≤ k) ∧ Drawn0 w w')
 case atStart => exact ⟨(0), (by first | rfl | (simp; done) | (simp [*]; done)), H', ⟨Nat.le_refl _⟩, dR_⟩
 case round =>
  clear H'
  obtain ⟨x3_1, rfl, HA, HK1, ⟨m1, rfl⟩⟩ := hrel
  cases gk with
  | zero => exact absurd HA.out (by simp [spec_l1Index.l0])
  | succ k1 =>
       have H := HA.out
       clear HA
       simp only [spec_l1Index.l0] at H
       by_cases c2 : x3_1 < 32
       {
       rw [if_pos c2] at H
       have c2b0 := decide_eq_true c2
       clear c2
       by_cases c3 : 0 ≤ x3_1
       {
       rw [if_pos c3] at H
       have c3b0 := decide_eq_true c3
       clear c3
       by_cases c5 : (bt (⟨#[48, 49, 50, 51, 52, 53, 54, 55, 56, 57, 97, 98, 99, 100, 102, 103, 104, 105, 106, 107, 108, 109, 110, 112, 113, 114, 115, 118, 119, 120, 121, 122]⟩ : ByteArray) x3_1) = a0
       {
       rw [if_pos c5] at H
       have c5b0 : ((bt (⟨#[48, 49, 50, 51, 52, 53, 54, 55, 56, 57, 97, 98, 99, 100, 102, 103, 104, 105, 106, 107, 108, 109, 110, 112, 113, 114, 115, 118, 119, 120, 121, 122]⟩ : ByteArray) x3_1) == a0) = true := beq_iff_eq.mpr c5
       have c5b1 : ((bt (⟨#[48, 49, 50, 51, 52, 53, 54, 55, 56, 57, 97, 98, 99, 100, 102, 103, 104, 105, 106, 107, 108, 109, 110, 112, 113, 114, 115, 118, 119, 120, 121, 122]⟩ : ByteArray) x3_1) != a0) = false := bne_eq_false_iff_eq.mpr c5
       clear c5
       obtain rfl := Option.some.inj H
       have p4 : 0 ≤ (x3_1 : Int) := dA_
       have q4 : x3_1 < (32 : Int) := dA_
       have hx4 := bt_at (⟨#[48, 49, 50, 51, 52, 53, 54, 55, 56, 57, 97, 98, 99, 100, 102, 103, 104, 105, 106, 107, 108, 109, 110, 112, 113, 114, 115, 118, 119, 120, 121, 122]⟩ : ByteArray) x3_1
       replace p4 := eq_true p4
       replace q4 := eq_true q4
       go_wp2
       go_ret
       exact ⟨eS_, dR_⟩}
       {
       rw [if_neg c5] at H
       have c5b0 : ((bt (⟨#[48, 49, 50, 51, 52, 53, 54, 55, 56, 57, 97, 98, 99, 100, 102, 103, 104, 105, 106, 107, 108, 109, 110, 112, 113, 114, 115, 118, 119, 120, 121, 122]⟩ : ByteArray) x3_1) == a0) = false := beq_eq_false_iff_ne.mpr c5
       have c5b1 : ((bt (⟨#[48, 49, 50, 51, 52, 53, 54, 55, 56, 57, 97, 98, 99, 100, 102, 103, 104, 105, 106, 107, 108, 109, 110, 112, 113, 114, 115, 118, 119, 120, 121, 122]⟩ : ByteArray) x3_1) != a0) = true := bne_iff_ne.mpr c5
       have H' := Aside0.mk H
       clear H
       have p4 : 0 ≤ (x3_1 : Int) := dA_
       have q4 : x3_1 < (32 : Int) := dA_
       have hx4 := bt_at (⟨#[48, 49, 50, 51, 52, 53, 54, 55, 56, 57, 97, 98, 99, 100, 102, 103, 104, 105, 106, 107, 108, 109, 110, 112, 113, 114, 115, 118, 119, 120, 121, 122]⟩ : ByteArray) x3_1
       replace p4 := eq_true p4
       replace q4 := eq_true q4
       go_wp2
       go_roundg k1
       case measure => have := HK1.out; omega
       case rel => exact ⟨(wrap64 (x3_1 + 1)), (by first | rfl | (simp; done) | (simp [*]; done)), H', ⟨by have := HK1.out; omega⟩, dR_⟩}}
       {
       rw [if_neg c3] at H
       exact absurd H (by simp)}}
       {
       rw [if_neg c2] at H
       have c2b0 := decide_eq_false c2
       clear c2
       obtain rfl := Option.some.inj H
       go_wp2
       go_ret
       exact ⟨eS_, dR_⟩
}
def spec_ReadWord32.l0 : Nat → ByteArray → Int → Int → Option (Int × Bool)
 | 0, _, _, _ => none
 | k + 1, x0, x4, x5 => if x5 < 13 then (if 0 ≤ x5 then (if x5 < (x0.size : Int) then ((spec_l1Index.f k (bt x0 x5)).bind fun t117 => (if t117 < 0 then (some (0, false)) else (if x5 = 0 then (if t117 > 15 then (some (0, false)) else (spec_ReadWord32.l0 k x0 (IntKind.u64.wrap ((IntKind.u64.wrap (x4 * 32)) + (IntKind.u64.wrap (t117)))) (wrap64 (x5 + 1)))) else (spec_ReadWord32.l0 k x0 (IntKind.u64.wrap ((IntKind.u64.wrap (x4 * 32)) + (IntKind.u64.wrap (t117)))) (wrap64 (x5 + 1)))))) else (none)) else (none)) else (some (x4, true))
def spec_ReadWord32.f (k : Nat) (a0 : ByteArray) : Option (Int × Bool) := if (a0.size : Int) = 13 then (spec_ReadWord32.l0 k a0 0 0) else (some (0, false))
theorem spec_ReadWord32.calls (k : Nat) (a0 : ByteArray) (r1 : Int) (r2 : Bool) (w : World) (h : spec_ReadWord32.f k a0 = some (r1, r2)) :
 Calls Tryz.prog 68 #[.string a0] w fun e w' => e = .returned (.tuple #[.int .u64 r1, .bool r2]) ∧ Drawn0 w w' := by
 have H : (if (a0.size : Int) = 13 then (spec_ReadWord32.l0 k a0 0 0) else (some (0, false))) = some (r1, r2) := h
 clear h
 by_cases c2 : (a0.size : Int) = 13
 {
 rw [if_pos c2] at H
 have c2b0 : ((a0.size : Int) == 13) = true := beq_iff_eq.mpr c2
 have c2b1 : ((a0.size : Int) != 13) = false := bne_eq_false_iff_eq.mpr c2
 clear c2
 have H' := Aside0.mk H
 clear H
 go_enter Tryz.func68, Tryz.ntmps68
 go_wp2
 go_loopg [4, 5] k (fun kq v4 v5 w' => ∃ (x4_1 : Int) (x5_1 : Int), v4 = .int .u64 x4_1 ∧ v5 = .int .i64 x5_1 ∧ Aside0 (spec_ReadWord32.l0 kq a0 x4_1 x5_1 = some (r1, r2)) ∧ Aside0 (kq ≤ k) ∧ Drawn0 w w')
 case atStart => exact ⟨(0), (0), (by first | rfl | (simp; done) | (simp [*]; done)), (by first | rfl | (simp; done) | (simp [*]; done)), H', ⟨Nat.le_refl _⟩, dR_⟩
 case round =>
  clear H'
  try clear c2
  try clear c2b0
  try clear c2b1
  try clear p2
  obtain ⟨x4_1, x5_1, rfl, rfl, HA, HK1, ⟨m1, rfl⟩⟩ := hrel
  cases gk with
  | zero => exact absurd HA.out (by simp [spec_ReadWord32.l0])
  | succ k1 =>
       have H := HA.out
       clear HA
       simp only [spec_ReadWord32.l0] at H
       by_cases c3 : x5_1 < 13
       {
       rw [if_pos c3] at H
       have c3b0 := decide_eq_true c3
       clear c3
       by_cases c4 : 0 ≤ x5_1
       {
       rw [if_pos c4] at H
       have c4b0 := decide_eq_true c4
       clear c4
       by_cases c5 : x5_1 < (a0.size : Int)
       {
       rw [if_pos c5] at H
       have c5b0 := decide_eq_true c5
       clear c5
       replace H := Option.bind_eq_some_iff.mp H
       obtain ⟨t117, A70, H⟩ := H
       have A7 := Aside0.mk A70
       clear A70
       by_cases c8 : t117 < 0
       {
       rw [if_pos c8] at H
       have c8b0 := decide_eq_true c8
       clear c8
       simp only [Option.some.injEq, Prod.mk.injEq] at H
       obtain ⟨rfl, rfl⟩ := H
       have p6 : 0 ≤ (x5_1 : Int) := dA_
       have q6 : x5_1 < (a0.size : Int) := dA_
       have hx6 := bt_at a0 x5_1
       replace p6 := eq_true p6
       replace q6 := eq_true q6
       go_wp2_with (first | ((with_reducible refine gate_callee (f := 86) rfl ?_); refine gL_ (some 17) Tryz.func86 #[.int .u8 (bt a0 x5_1)] ?_; (with_reducible refine (spec_l1Index.calls k1 (bt a0 x5_1) t117 _ A7.out).mono ?_); rintro e w' ⟨rfl, ⟨nd, rfl⟩⟩; refine ⟨_, rfl, ?_⟩))
       go_ret2
       exact ⟨eS_, dR_⟩}
       {
       rw [if_neg c8] at H
       have c8b0 := decide_eq_false c8
       clear c8
       by_cases c9 : x5_1 = 0
       {
       rw [if_pos c9] at H
       have c9b0 : (x5_1 == 0) = true := beq_iff_eq.mpr c9
       have c9b1 : (x5_1 != 0) = false := bne_eq_false_iff_eq.mpr c9
       clear c9
       by_cases c10 : t117 > 15
       {
       rw [if_pos c10] at H
       have c10b0 : decide (15 < t117) = true := decide_eq_true c10
       clear c10
       simp only [Option.some.injEq, Prod.mk.injEq] at H
       obtain ⟨rfl, rfl⟩ := H
       have p6 : 0 ≤ (x5_1 : Int) := dA_
       have q6 : x5_1 < (a0.size : Int) := dA_
       have hx6 := bt_at a0 x5_1
       replace p6 := eq_true p6
       replace q6 := eq_true q6
       go_wp2_with (first | ((with_reducible refine gate_callee (f := 86) rfl ?_); refine gL_ (some 17) Tryz.func86 #[.int .u8 (bt a0 x5_1)] ?_; (with_reducible refine (spec_l1Index.calls k1 (bt a0 x5_1) t117 _ A7.out).mono ?_); rintro e w' ⟨rfl, ⟨nd, rfl⟩⟩; refine ⟨_, rfl, ?_⟩))
       go_ret2
       exact ⟨eS_, dR_⟩}
       {
       rw [if_neg c10] at H
       have c10b0 : decide (15 < t117) = false := decide_eq_false c10
       clear c10
       have H' := Aside0.mk H
       clear H
       have p6 : 0 ≤ (x5_1 : Int) := dA_
       have q6 : x5_1 < (a0.size : Int) := dA_
       have hx6 := bt_at a0 x5_1
       replace p6 := eq_true p6
       replace q6 := eq_true q6
       go_wp2_with (first | ((with_reducible refine gate_callee (f := 86) rfl ?_); refine gL_ (some 17) Tryz.func86 #[.int .u8 (bt a0 x5_1)] ?_; (with_reducible refine (spec_l1Index.calls k1 (bt a0 x5_1) t117 _ A7.out).mono ?_); rintro e w' ⟨rfl, ⟨nd, rfl⟩⟩; refine ⟨_, rfl, ?_⟩))
       go_roundg k1
       case measure => have := HK1.out; omega
       case rel => exact ⟨(IntKind.u64.wrap ((IntKind.u64.wrap (x4_1 * 32)) + (IntKind.u64.wrap (t117)))), (wrap64 (x5_1 + 1)), (by first | rfl | (simp; done) | (simp [*]; done)), (by first | rfl | (simp; done) | (simp [*]; done)), H', ⟨by have := HK1.out; omega⟩, dR_⟩}}
       {
       rw [if_neg c9] at H
       have c9b0 : (x5_1 == 0) = false := beq_eq_false_iff_ne.mpr c9
       have c9b1 : (x5_1 != 0) = true := bne_iff_ne.mpr c9
       have H' := Aside0.mk H
       clear H
       have p6 : 0 ≤ (x5_1 : Int) := dA_
       have q6 : x5_1 < (a0.size : Int) := dA_
       have hx6 := bt_at a0 x5_1
       replace p6 := eq_true p6
       replace q6 := eq_true q6
       go_wp2_with (first | ((with_reducible refine gate_callee (f := 86) rfl ?_); refine gL_ (some 17) Tryz.func86 #[.int .u8 (bt a0 x5_1)] ?_; (with_reducible refine (spec_l1Index.calls k1 (bt a0 x5_1) t117 _ A7.out).mono ?_); rintro e w' ⟨rfl, ⟨nd, rfl⟩⟩; refine ⟨_, rfl, ?_⟩))
       go_roundg k1
       case measure => have := HK1.out; omega
       case rel => exact ⟨(IntKind.u64.wrap ((IntKind.u64.wrap (x4_1 * 32)) + (IntKind.u64.wrap (t117)))), (wrap64 (x5_1 + 1)), (by first | rfl | (simp; done) | (simp [*]; done)), (by first | rfl | (simp; done) | (simp [*]; done)), H', ⟨by have := HK1.out; omega⟩, dR_⟩}}}
       {
       rw [if_neg c5] at H
       exact absurd H (by simp)}}
       {
       rw [if_neg c4] at H
       exact absurd H (by simp)}}
       {
       rw [if_neg c3] at H
       have c3b0 := decide_eq_false c3
       clear c3
       simp only [Option.some.injEq, Prod.mk.injEq] at H
       obtain ⟨rfl, rfl⟩ := H
       go_wp2
       go_ret2
       exact ⟨eS_, dR_⟩}}
 {
 rw [if_neg c2] at H
 have c2b0 : ((a0.size : Int) == 13) = false := beq_eq_false_iff_ne.mpr c2
 have c2b1 : ((a0.size : Int) != 13) = true := bne_iff_ne.mpr c2
 simp only [Option.some.injEq, Prod.mk.injEq] at H
 obtain ⟨rfl, rfl⟩ := H
 go_enter Tryz.func68, Tryz.ntmps68
 go_wp2
 go_ret2
 exact ⟨eS_, dR_⟩
}
def spec_l1Letter.f (a0 : Int) : Option (Bool) := if a0 ≥ 97 then (if a0 ≤ 122 then (some true) else (if a0 ≥ 65 then (some (decide (a0 ≤ 90))) else (some false))) else (if a0 ≥ 65 then (some (decide (a0 ≤ 90))) else (some false))
theorem spec_l1Letter.calls (a0 : Int) (r : Bool) (w : World) (h : spec_l1Letter.f a0 = some r) :
 Calls Tryz.prog 87 #[.int .u8 a0] w fun e w' => e = .returned (.bool r) ∧ Drawn0 w w' := by
 have H : (if a0 ≥ 97 then (if a0 ≤ 122 then (some true) else (if a0 ≥ 65 then (some (decide (a0 ≤ 90))) else (some false))) else (if a0 ≥ 65 then (some (decide (a0 ≤ 90))) else (some false))) = some r := h
 clear h
 by_cases c2 : a0 ≥ 97
 {
 rw [if_pos c2] at H
 have c2b0 : decide (97 ≤ a0) = true := decide_eq_true c2
 clear c2
 by_cases c3 : a0 ≤ 122
 {
 rw [if_pos c3] at H
 have c3b0 := decide_eq_true c3
 clear c3
 obtain rfl := Option.some.inj H
 go_enter Tryz.func87, Tryz.ntmps87
 go_wp2
 go_ret
 exact ⟨eS_, dR_⟩}
 {
 rw [if_neg c3] at H
 have c3b0 := decide_eq_false c3
 clear c3
 by_cases c4 : a0 ≥ 65
 {
 rw [if_pos c4] at H
 have c4b0 : decide (65 ≤ a0) = true := decide_eq_true c4
 clear c4
 obtain rfl := Option.some.inj H
 go_enter Tryz.func87, Tryz.ntmps87
 go_wp2
 go_ret
 exact ⟨eS_, dR_⟩}
 {
 rw [if_neg c4] at H
 have c4b0 : decide (65 ≤ a0) = false := decide_eq_false c4
 clear c4
 obtain rfl := Option.some.inj H
 go_enter Tryz.func87, Tryz.ntmps87
 go_wp2
 go_ret
 exact ⟨eS_, dR_⟩}}}
 {
 rw [if_neg c2] at H
 have c2b0 : decide (97 ≤ a0) = false := decide_eq_false c2
 clear c2
 by_cases c5 : a0 ≥ 65
 {
 rw [if_pos c5] at H
 have c5b0 : decide (65 ≤ a0) = true := decide_eq_true c5
 clear c5
 obtain rfl := Option.some.inj H
 go_enter Tryz.func87, Tryz.ntmps87
 go_wp2
 go_ret
 exact ⟨eS_, dR_⟩}
 {
 rw [if_neg c5] at H
 have c5b0 : decide (65 ≤ a0) = false := decide_eq_false c5
 clear c5
 obtain rfl := Option.some.inj H
 go_enter Tryz.func87, Tryz.ntmps87
 go_wp2
 go_ret
 exact ⟨eS_, dR_⟩
}}
def spec_l1Digit.f (a0 : Int) : Option (Bool) := if a0 ≥ 48 then (some (decide (a0 ≤ 57))) else (some false)
theorem spec_l1Digit.calls (a0 : Int) (r : Bool) (w : World) (h : spec_l1Digit.f a0 = some r) :
 Calls Tryz.prog 88 #[.int .u8 a0] w fun e w' => e = .returned (.bool r) ∧ Drawn0 w w' := by
 have H : (if a0 ≥ 48 then (some (decide (a0 ≤ 57))) else (some false)) = some r := h
 clear h
 by_cases c2 : a0 ≥ 48
 {
 rw [if_pos c2] at H
 have c2b0 : decide (48 ≤ a0) = true := decide_eq_true c2
 clear c2
 obtain rfl := Option.some.inj H
 go_enter Tryz.func88, Tryz.ntmps88
 go_wp2
 go_ret
 exact ⟨eS_, dR_⟩}
 {
 rw [if_neg c2] at H
 have c2b0 : decide (48 ≤ a0) = false := decide_eq_false c2
 clear c2
 obtain rfl := Option.some.inj H
 go_enter Tryz.func88, Tryz.ntmps88
 go_wp2
 go_ret
 exact ⟨eS_, dR_⟩
}
mutual
def spec_NameOk.j0 : Nat → ByteArray → Bool → Option (Bool)
 | 0, _, _ => none
 | k + 1, x0, x17 => if x17 = true then (some false) else (spec_NameOk.l0 k x0 0)
def spec_NameOk.l0 : Nat → ByteArray → Int → Option (Bool)
 | 0, _, _ => none
 | k + 1, x0, x3 => if x3 < (x0.size : Int) then (if 0 ≤ x3 then ((spec_l1Letter.f (bt x0 x3)).bind fun t118 => (if t118 = true then (spec_NameOk.l0 k x0 (wrap64 (x3 + 1))) else ((spec_l1Digit.f (bt x0 x3)).bind fun t119 => (if t119 = true then (spec_NameOk.l0 k x0 (wrap64 (x3 + 1))) else (if (bt x0 x3) = 45 then (spec_NameOk.l0 k x0 (wrap64 (x3 + 1))) else (if (bt x0 x3) = 95 then (spec_NameOk.l0 k x0 (wrap64 (x3 + 1))) else (if (bt x0 x3) = 46 then (spec_NameOk.l0 k x0 (wrap64 (x3 + 1))) else (if (bt x0 x3) = 43 then (spec_NameOk.l0 k x0 (wrap64 (x3 + 1))) else (some false))))))))) else (none)) else (some true)
end
def spec_NameOk.f (k : Nat) (a0 : ByteArray) : Option (Bool) := if (a0.size : Int) < 1 then (spec_NameOk.j0 k a0 true) else (if (a0.size : Int) > 60 then (spec_NameOk.j0 k a0 true) else (if 0 < (a0.size : Int) then (spec_NameOk.j0 k a0 ((bt a0 0) == 46)) else (none)))
theorem spec_NameOk.calls (k : Nat) (a0 : ByteArray) (r : Bool) (w : World) (h : spec_NameOk.f k a0 = some r) :
 Calls Tryz.prog 69 #[.string a0] w fun e w' => e = .returned (.bool r) ∧ Drawn0 w w' := by
 have H : (if (a0.size : Int) < 1 then (spec_NameOk.j0 k a0 true) else (if (a0.size : Int) > 60 then (spec_NameOk.j0 k a0 true) else (if 0 < (a0.size : Int) then (spec_NameOk.j0 k a0 ((bt a0 0) == 46)) else (none)))) = some r := h
 clear h
 have HC2 := Aside0.mk H
 clear H
 go_enter Tryz.func69, Tryz.ntmps69
 go_upto_region 1 with (fail)
 go_cut [17] (fun v17 wc => ∃ (kq : Nat) (x17_1 : Bool), v17 = .bool x17_1 ∧ Aside0 (spec_NameOk.j0 kq a0 x17_1 = some r) ∧ Aside0 (kq ≤ k) ∧ Drawn0 w wc)
 case first =>
  have H := HC2.out
  clear HC2
  by_cases c3 : (a0.size : Int) < 1
  {
  rw [if_pos c3] at H
  have c3b0 := decide_eq_true c3
  have c3b1 : decide (a0.size < 1) = true := decide_eq_true (by omega)
  clear c3
  (first | rw [c3b0] | (simp only [i64_w, i32_w]; rw [c3b0]) | skip)
  have H' := Aside0.mk H
  clear H
  go_wp2
  go_meet
  case rel => exact ⟨_, (true), (by first | rfl | (simp; done) | (simp [*]; done)), H', ⟨by first | omega | exact Nat.le_refl _⟩, dR_⟩}
  {
  rw [if_neg c3] at H
  have c3b0 := decide_eq_false c3
  have c3b1 : decide (a0.size < 1) = false := decide_eq_false (by omega)
  clear c3
  (first | rw [c3b0] | (simp only [i64_w, i32_w]; rw [c3b0]) | skip)
  by_cases c4 : (a0.size : Int) > 60
  {
  rw [if_pos c4] at H
  have c4b0 : decide (60 < (a0.size : Int)) = true := decide_eq_true c4
  have c4b1 : decide (60 < a0.size) = true := decide_eq_true (by omega)
  clear c4
  have H' := Aside0.mk H
  clear H
  go_wp2
  go_meet
  case rel => exact ⟨_, (true), (by first | rfl | (simp; done) | (simp [*]; done)), H', ⟨by first | omega | exact Nat.le_refl _⟩, dR_⟩}
  {
  rw [if_neg c4] at H
  have c4b0 : decide (60 < (a0.size : Int)) = false := decide_eq_false c4
  have c4b1 : decide (60 < a0.size) = false := decide_eq_false (by omega)
  clear c4
  by_cases c5 : 0 < (a0.size : Int)
  {
  rw [if_pos c5] at H
  have c5b0 := decide_eq_true c5
  have c5b1 : decide (0 < a0.size) = true := decide_eq_true (by omega)
  clear c5
  have H' := Aside0.mk H
  clear H
  have p6 : 0 ≤ (0 : Int) := (by omega)
  have q6 : 0 < a0.size := (by have : (0 : Int) < (a0.size : Int) := dA_; omega)
  have hx6 : ∀ h : 0 < a0.size, ((a0[0]'h).toNat : Int) = bt a0 0 := bt_at a0 0
  clear p6
  have qi6 : (0 < (a0.size : Int)) = True := eq_true (dA_)
  replace q6 := eq_true q6
  go_wp2
  go_meet
  case rel => exact ⟨_, (((bt a0 0) == 46)), (by first | rfl | (simp; done) | (simp [*]; done)), H', ⟨by first | omega | exact Nat.le_refl _⟩, dR_⟩}
  {
  rw [if_neg c5] at H
  exact absurd H (by simp)}}}
 case rest =>
  clear HC2
  try clear p2
  try clear c3
  try clear c3b0
  try clear c3b1
  try clear c4
  try clear c4b0
  try clear c4b1
  try clear c5
  try clear c5b0
  try clear c5b1
  try clear c6
  try clear p6
  try clear q6
  try clear hx6
  try clear qi6
  try clear p6
  try clear q6
  obtain ⟨kq, x17_1, rfl, HA, HJ1, ⟨mc1, rfl⟩⟩ := hcut
  cases kq with
  | zero => exact absurd HA.out (by simp [spec_NameOk.j0])
  | succ kj1 =>
       have H := HA.out
       clear HA
       simp only [spec_NameOk.j0] at H
       by_cases c7 : x17_1 = true
       {
       subst c7
       rw [if_pos rfl] at H
       obtain rfl := Option.some.inj H
       go_wp2
       go_ret
       exact ⟨eS_, dR_⟩}
       {
       replace c7 := Bool.eq_false_iff.mpr c7
       subst c7
       rw [if_neg (show ¬ (false = true) by decide)] at H
       have H' := Aside0.mk H
       clear H
       go_wp2
       go_loopg [3] kj1 (fun kq v3 w' => ∃ (x3_2 : Int), v3 = .int .i64 x3_2 ∧ Aside0 (spec_NameOk.l0 kq a0 x3_2 = some r) ∧ Aside0 (kq ≤ kj1) ∧ Drawn0 w w')
       case atStart => exact ⟨(0), (by first | rfl | (simp; done) | (simp [*]; done)), H', ⟨Nat.le_refl _⟩, dR_⟩
       case round =>
        clear H'
        try clear c1
        try clear p2
        try clear c3
        try clear c3b0
        try clear c3b1
        try clear c4
        try clear c4b0
        try clear c4b1
        try clear c5
        try clear c5b0
        try clear c5b1
        try clear c6
        try clear p6
        try clear q6
        try clear hx6
        try clear qi6
        try clear c7
        try clear p2
        try clear p6
        try clear q6
        obtain ⟨x3_2, rfl, HA, HK2, ⟨m2, rfl⟩⟩ := hrel
        cases gk with
        | zero => exact absurd HA.out (by simp [spec_NameOk.l0])
        | succ k2 =>
             have H := HA.out
             clear HA
             simp only [spec_NameOk.l0] at H
             by_cases c8 : x3_2 < (a0.size : Int)
             {
             rw [if_pos c8] at H
             have c8b0 := decide_eq_true c8
             clear c8
             by_cases c9 : 0 ≤ x3_2
             {
             rw [if_pos c9] at H
             have c9b0 := decide_eq_true c9
             clear c9
             replace H := Option.bind_eq_some_iff.mp H
             obtain ⟨t118, A110, H⟩ := H
             have A11 := Aside0.mk A110
             clear A110
             by_cases c12 : t118 = true
             {
             subst c12
             rw [if_pos rfl] at H
             have H' := Aside0.mk H
             clear H
             have p10 : 0 ≤ (x3_2 : Int) := dA_
             have q10 : x3_2 < (a0.size : Int) := dA_
             have hx10 := bt_at a0 x3_2
             replace p10 := eq_true p10
             replace q10 := eq_true q10
             go_wp2_with (first | ((with_reducible refine gate_callee (f := 87) rfl ?_); refine gL_ (some 28) Tryz.func87 #[.int .u8 (bt a0 x3_2)] ?_; (with_reducible refine (spec_l1Letter.calls (bt a0 x3_2) true _ A11.out).mono ?_); rintro e w' ⟨rfl, ⟨nd, rfl⟩⟩; refine ⟨_, rfl, ?_⟩))
             go_roundg k2
             case measure => have := HJ1.out; have := HK2.out; omega
             case rel => exact ⟨(wrap64 (x3_2 + 1)), (by first | rfl | (simp; done) | (simp [*]; done)), H', ⟨by have := HJ1.out; have := HK2.out; omega⟩, dR_⟩}
             {
             replace c12 := Bool.eq_false_iff.mpr c12
             subst c12
             rw [if_neg (show ¬ (false = true) by decide)] at H
             replace H := Option.bind_eq_some_iff.mp H
             obtain ⟨t119, A130, H⟩ := H
             have A13 := Aside0.mk A130
             clear A130
             by_cases c14 : t119 = true
             {
             subst c14
             rw [if_pos rfl] at H
             have H' := Aside0.mk H
             clear H
             have p10 : 0 ≤ (x3_2 : Int) := dA_
             have q10 : x3_2 < (a0.size : Int) := dA_
             have hx10 := bt_at a0 x3_2
             replace p10 := eq_true p10
             replace q10 := eq_true q10
             go_wp2_with (first | ((with_reducible refine gate_callee (f := 87) rfl ?_); refine gL_ (some 28) Tryz.func87 #[.int .u8 (bt a0 x3_2)] ?_; (with_reducible refine (spec_l1Letter.calls (bt a0 x3_2) false _ A11.out).mono ?_); rintro e w' ⟨rfl, ⟨nd, rfl⟩⟩; refine ⟨_, rfl, ?_⟩) | (go_at_call 88; (with_reducible refine (spec_l1Digit.calls (bt a0 x3_2) true _ A13.out).mono ?_); rintro e w' ⟨rfl, ⟨nd, rfl⟩⟩))
             go_roundg k2
             case measure => have := HJ1.out; have := HK2.out; omega
             case rel => exact ⟨(wrap64 (x3_2 + 1)), (by first | rfl | (simp; done) | (simp [*]; done)), H', ⟨by have := HJ1.out; have := HK2.out; omega⟩, dR_⟩}
             {
             replace c14 := Bool.eq_false_iff.mpr c14
             subst c14
             rw [if_neg (show ¬ (false = true) by decide)] at H
             by_cases c15 : (bt a0 x3_2) = 45
             {
             rw [if_pos c15] at H
             have c15b0 : ((bt a0 x3_2) == 45) = true := beq_iff_eq.mpr c15
             have c15b1 : ((bt a0 x3_2) != 45) = false := bne_eq_false_iff_eq.mpr c15
             clear c15
             have H' := Aside0.mk H
             clear H
             have p10 : 0 ≤ (x3_2 : Int) := dA_
             have q10 : x3_2 < (a0.size : Int) := dA_
             have hx10 := bt_at a0 x3_2
             replace p10 := eq_true p10
             replace q10 := eq_true q10
             go_wp2_with (first | ((with_reducible refine gate_callee (f := 87) rfl ?_); refine gL_ (some 28) Tryz.func87 #[.int .u8 (bt a0 x3_2)] ?_; (with_reducible refine (spec_l1Letter.calls (bt a0 x3_2) false _ A11.out).mono ?_); rintro e w' ⟨rfl, ⟨nd, rfl⟩⟩; refine ⟨_, rfl, ?_⟩) | (go_at_call 88; (with_reducible refine (spec_l1Digit.calls (bt a0 x3_2) false _ A13.out).mono ?_); rintro e w' ⟨rfl, ⟨nd, rfl⟩⟩))
             go_roundg k2
             case measure => have := HJ1.out; have := HK2.out; omega
             case rel => exact ⟨(wrap64 (x3_2 + 1)), (by first | rfl | (simp; done) | (simp [*]; done)), H', ⟨by have := HJ1.out; have := HK2.out; omega⟩, dR_⟩}
             {
             rw [if_neg c15] at H
             have c15b0 : ((bt a0 x3_2) == 45) = false := beq_eq_false_iff_ne.mpr c15
             have c15b1 : ((bt a0 x3_2) != 45) = true := bne_iff_ne.mpr c15
             by_cases c16 : (bt a0 x3_2) = 95
             {
             rw [if_pos c16] at H
             have c16b0 : ((bt a0 x3_2) == 95) = true := beq_iff_eq.mpr c16
             have c16b1 : ((bt a0 x3_2) != 95) = false := bne_eq_false_iff_eq.mpr c16
             clear c16
             have H' := Aside0.mk H
             clear H
             have p10 : 0 ≤ (x3_2 : Int) := dA_
             have q10 : x3_2 < (a0.size : Int) := dA_
             have hx10 := bt_at a0 x3_2
             replace p10 := eq_true p10
             replace q10 := eq_true q10
             go_wp2_with (first | ((with_reducible refine gate_callee (f := 87) rfl ?_); refine gL_ (some 28) Tryz.func87 #[.int .u8 (bt a0 x3_2)] ?_; (with_reducible refine (spec_l1Letter.calls (bt a0 x3_2) false _ A11.out).mono ?_); rintro e w' ⟨rfl, ⟨nd, rfl⟩⟩; refine ⟨_, rfl, ?_⟩) | (go_at_call 88; (with_reducible refine (spec_l1Digit.calls (bt a0 x3_2) false _ A13.out).mono ?_); rintro e w' ⟨rfl, ⟨nd, rfl⟩⟩))
             go_roundg k2
             case measure => have := HJ1.out; have := HK2.out; omega
             case rel => exact ⟨(wrap64 (x3_2 + 1)), (by first | rfl | (simp; done) | (simp [*]; done)), H', ⟨by have := HJ1.out; have := HK2.out; omega⟩, dR_⟩}
             {
             rw [if_neg c16] at H
             have c16b0 : ((bt a0 x3_2) == 95) = false := beq_eq_false_iff_ne.mpr c16
             have c16b1 : ((bt a0 x3_2) != 95) = true := bne_iff_ne.mpr c16
             by_cases c17 : (bt a0 x3_2) = 46
             {
             rw [if_pos c17] at H
             have c17b0 : ((bt a0 x3_2) == 46) = true := beq_iff_eq.mpr c17
             have c17b1 : ((bt a0 x3_2) != 46) = false := bne_eq_false_iff_eq.mpr c17
             clear c17
             have H' := Aside0.mk H
             clear H
             have p10 : 0 ≤ (x3_2 : Int) := dA_
             have q10 : x3_2 < (a0.size : Int) := dA_
             have hx10 := bt_at a0 x3_2
             replace p10 := eq_true p10
             replace q10 := eq_true q10
             go_wp2_with (first | ((with_reducible refine gate_callee (f := 87) rfl ?_); refine gL_ (some 28) Tryz.func87 #[.int .u8 (bt a0 x3_2)] ?_; (with_reducible refine (spec_l1Letter.calls (bt a0 x3_2) false _ A11.out).mono ?_); rintro e w' ⟨rfl, ⟨nd, rfl⟩⟩; refine ⟨_, rfl, ?_⟩) | (go_at_call 88; (with_reducible refine (spec_l1Digit.calls (bt a0 x3_2) false _ A13.out).mono ?_); rintro e w' ⟨rfl, ⟨nd, rfl⟩⟩))
             go_roundg k2
             case measure => have := HJ1.out; have := HK2.out; omega
             case rel => exact ⟨(wrap64 (x3_2 + 1)), (by first | rfl | (simp; done) | (simp [*]; done)), H', ⟨by have := HJ1.out; have := HK2.out; omega⟩, dR_⟩}
             {
             rw [if_neg c17] at H
             have c17b0 : ((bt a0 x3_2) == 46) = false := beq_eq_false_iff_ne.mpr c17
             have c17b1 : ((bt a0 x3_2) != 46) = true := bne_iff_ne.mpr c17
             by_cases c18 : (bt a0 x3_2) = 43
             {
             rw [if_pos c18] at H
             have c18b0 : ((bt a0 x3_2) == 43) = true := beq_iff_eq.mpr c18
             have c18b1 : ((bt a0 x3_2) != 43) = false := bne_eq_false_iff_eq.mpr c18
             clear c18
             have H' := Aside0.mk H
             clear H
             have p10 : 0 ≤ (x3_2 : Int) := dA_
             have q10 : x3_2 < (a0.size : Int) := dA_
             have hx10 := bt_at a0 x3_2
             replace p10 := eq_true p10
             replace q10 := eq_true q10
             go_wp2_with (first | ((with_reducible refine gate_callee (f := 87) rfl ?_); refine gL_ (some 28) Tryz.func87 #[.int .u8 (bt a0 x3_2)] ?_; (with_reducible refine (spec_l1Letter.calls (bt a0 x3_2) false _ A11.out).mono ?_); rintro e w' ⟨rfl, ⟨nd, rfl⟩⟩; refine ⟨_, rfl, ?_⟩) | (go_at_call 88; (with_reducible refine (spec_l1Digit.calls (bt a0 x3_2) false _ A13.out).mono ?_); rintro e w' ⟨rfl, ⟨nd, rfl⟩⟩))
             go_roundg k2
             case measure => have := HJ1.out; have := HK2.out; omega
             case rel => exact ⟨(wrap64 (x3_2 + 1)), (by first | rfl | (simp; done) | (simp [*]; done)), H', ⟨by have := HJ1.out; have := HK2.out; omega⟩, dR_⟩}
             {
             rw [if_neg c18] at H
             have c18b0 : ((bt a0 x3_2) == 43) = false := beq_eq_false_iff_ne.mpr c18
             have c18b1 : ((bt a0 x3_2) != 43) = true := bne_iff_ne.mpr c18
             obtain rfl := Option.some.inj H
             have p10 : 0 ≤ (x3_2 : Int) := dA_
             have q10 : x3_2 < (a0.size : Int) := dA_
             have hx10 := bt_at a0 x3_2
             replace p10 := eq_true p10
             replace q10 := eq_true q10
             go_wp2_with (first | ((with_reducible refine gate_callee (f := 87) rfl ?_); refine gL_ (some 28) Tryz.func87 #[.int .u8 (bt a0 x3_2)] ?_; (with_reducible refine (spec_l1Letter.calls (bt a0 x3_2) false _ A11.out).mono ?_); rintro e w' ⟨rfl, ⟨nd, rfl⟩⟩; refine ⟨_, rfl, ?_⟩) | (go_at_call 88; (with_reducible refine (spec_l1Digit.calls (bt a0 x3_2) false _ A13.out).mono ?_); rintro e w' ⟨rfl, ⟨nd, rfl⟩⟩))
             go_ret
             exact ⟨eS_, dR_⟩}}}}}}}
             {
             rw [if_neg c9] at H
             exact absurd H (by simp)}}
             {
             rw [if_neg c8] at H
             have c8b0 := decide_eq_false c8
             clear c8
             obtain rfl := Option.some.inj H
             go_wp2
             go_ret
             exact ⟨eS_, dR_⟩
}}
def impl_upper.f (a0 : ByteArray) : Option (ByteArray × Bool) := (strings_LastIndexByte.f a0 47).bind fun t360 => (if t360 < 0 then (some ((⟨#[]⟩ : ByteArray), false)) else (if 0 ≤ t360 then (if t360 ≤ (a0.size : Int) then (some (a0.extract 0 (t360 : Int).toNat, true)) else (none)) else (none)))
theorem impl_upper.calls (a0 : ByteArray) (r1 : ByteArray) (r2 : Bool) (w : World) (h : impl_upper.f a0 = some (r1, r2)) :
 Calls Tryz.prog 99 #[.string a0] w fun e w' => e = .returned (.tuple #[.string r1, .bool r2]) ∧ Drawn0 w w' := by
 have H : ((strings_LastIndexByte.f a0 47).bind fun t360 => (if t360 < 0 then (some ((⟨#[]⟩ : ByteArray), false)) else (if 0 ≤ t360 then (if t360 ≤ (a0.size : Int) then (some (a0.extract 0 (t360 : Int).toNat, true)) else (none)) else (none)))) = some (r1, r2) := h
 clear h
 replace H := Option.bind_eq_some_iff.mp H
 obtain ⟨t360, A20, H⟩ := H
 have A2 := Aside0.mk A20
 clear A20
 by_cases c3 : t360 < 0
 {
 rw [if_pos c3] at H
 have c3b0 := decide_eq_true c3
 clear c3
 simp only [Option.some.injEq, Prod.mk.injEq] at H
 obtain ⟨rfl, rfl⟩ := H
 go_enter Tryz.func99, Tryz.ntmps99
 go_wp2_with (first | ((with_reducible refine gate_callee (f := 110) rfl ?_); refine gL_ (some 6) Tryz.func110 #[.string a0, .int .u8 47] ?_; (with_reducible refine (strings_LastIndexByte.calls a0 47 t360 _ A2.out).mono ?_); rintro e w' ⟨rfl, ⟨nd, rfl⟩⟩; refine ⟨_, rfl, ?_⟩))
 go_ret2
 exact ⟨eS_, dR_⟩}
 {
 rw [if_neg c3] at H
 have c3b0 := decide_eq_false c3
 clear c3
 by_cases c4 : 0 ≤ t360
 {
 rw [if_pos c4] at H
 have c4b0 := eq_true c4
 have c4b1 := decide_eq_true c4
 clear c4
 by_cases c5 : t360 ≤ (a0.size : Int)
 {
 rw [if_pos c5] at H
 have c5b0 := eq_true c5
 have c5b1 := decide_eq_true c5
 clear c5
 simp only [Option.some.injEq, Prod.mk.injEq] at H
 obtain ⟨rfl, rfl⟩ := H
 go_enter Tryz.func99, Tryz.ntmps99
 go_wp2_with (first | ((with_reducible refine gate_callee (f := 110) rfl ?_); refine gL_ (some 6) Tryz.func110 #[.string a0, .int .u8 47] ?_; (with_reducible refine (strings_LastIndexByte.calls a0 47 t360 _ A2.out).mono ?_); rintro e w' ⟨rfl, ⟨nd, rfl⟩⟩; refine ⟨_, rfl, ?_⟩))
 go_ret2
 exact ⟨eS_, dR_⟩}
 {
 rw [if_neg c5] at H
 exact absurd H (by simp)}}
 {
 rw [if_neg c4] at H
 exact absurd H (by simp)
}}
def spec_AddressOk.j0 : Nat → ByteArray → Bool → Option (Bool)
 | 0, _, _ => none
 | k + 1, x0, x12 => if x12 = true then (some false) else (if 0 ≤ 13 then (if 13 ≤ (x0.size : Int) then ((spec_ReadWord32.f k (x0.extract 0 13)).bind fun bt120 => (if bt120.2 = true then (if 14 ≤ (x0.size : Int) then ((spec_NameOk.f k (x0.extract 14 x0.size)).bind fun t122 => (some t122)) else (none)) else (some false))) else (none)) else (none))
def spec_AddressOk.f (k : Nat) (a0 : ByteArray) : Option (Bool) := if (a0.size : Int) < 15 then (spec_AddressOk.j0 k a0 true) else (if 13 < (a0.size : Int) then (spec_AddressOk.j0 k a0 ((bt a0 13) != 45)) else (none))
theorem spec_AddressOk.calls (k : Nat) (a0 : ByteArray) (r : Bool) (w : World) (h : spec_AddressOk.f k a0 = some r) :
 Calls Tryz.prog 43 #[.string a0] w fun e w' => e = .returned (.bool r) ∧ Drawn0 w w' := by
 have H : (if (a0.size : Int) < 15 then (spec_AddressOk.j0 k a0 true) else (if 13 < (a0.size : Int) then (spec_AddressOk.j0 k a0 ((bt a0 13) != 45)) else (none))) = some r := h
 clear h
 have HC2 := Aside0.mk H
 clear H
 go_enter Tryz.func43, Tryz.ntmps43
 go_upto_region 1 with (fail)
 go_cut [12] (fun v12 wc => ∃ (kq : Nat) (x12_1 : Bool), v12 = .bool x12_1 ∧ Aside0 (spec_AddressOk.j0 kq a0 x12_1 = some r) ∧ Aside0 (kq ≤ k) ∧ Drawn0 w wc)
 case first =>
  have H := HC2.out
  clear HC2
  by_cases c3 : (a0.size : Int) < 15
  {
  rw [if_pos c3] at H
  have c3b0 := decide_eq_true c3
  have c3b1 : decide (a0.size < 15) = true := decide_eq_true (by omega)
  clear c3
  (first | rw [c3b0] | (simp only [i64_w, i32_w]; rw [c3b0]) | skip)
  have H' := Aside0.mk H
  clear H
  go_wp2
  go_meet
  case rel => exact ⟨_, (true), (by first | rfl | (simp; done) | (simp [*]; done)), H', ⟨by first | omega | exact Nat.le_refl _⟩, dR_⟩}
  {
  rw [if_neg c3] at H
  have c3b0 := decide_eq_false c3
  have c3b1 : decide (a0.size < 15) = false := decide_eq_false (by omega)
  clear c3
  (first | rw [c3b0] | (simp only [i64_w, i32_w]; rw [c3b0]) | skip)
  by_cases c4 : 13 < (a0.size : Int)
  {
  rw [if_pos c4] at H
  have c4b0 := decide_eq_true c4
  have c4b1 : decide (13 < a0.size) = true := decide_eq_true (by omega)
  clear c4
  have H' := Aside0.mk H
  clear H
  have p5 : 0 ≤ (13 : Int) := (by omega)
  have q5 : 13 < a0.size := (by have : (13 : Int) < (a0.size : Int) := dA_; omega)
  have hx5 : ∀ h : 13 < a0.size, ((a0[13]'h).toNat : Int) = bt a0 13 := bt_at a0 13
  clear p5
  have qi5 : (13 < (a0.size : Int)) = True := eq_true (dA_)
  replace q5 := eq_true q5
  go_wp2
  go_meet
  case rel => exact ⟨_, (((bt a0 13) != 45)), (by first | rfl | (simp; done) | (simp [*]; done)), H', ⟨by first | omega | exact Nat.le_refl _⟩, dR_⟩}
  {
  rw [if_neg c4] at H
  exact absurd H (by simp)}}
 case rest =>
  clear HC2
  try clear p2
  try clear c3
  try clear c3b0
  try clear c3b1
  try clear c4
  try clear c4b0
  try clear c4b1
  try clear p5
  try clear q5
  try clear hx5
  try clear qi5
  try clear p5
  try clear q5
  obtain ⟨kq, x12_1, rfl, HA, HJ1, ⟨mc1, rfl⟩⟩ := hcut
  cases kq with
  | zero => exact absurd HA.out (by simp [spec_AddressOk.j0])
  | succ kj1 =>
       have H := HA.out
       clear HA
       simp only [spec_AddressOk.j0] at H
       by_cases c6 : x12_1 = true
       {
       subst c6
       rw [if_pos rfl] at H
       obtain rfl := Option.some.inj H
       go_wp2
       go_ret
       exact ⟨eS_, dR_⟩}
       {
       replace c6 := Bool.eq_false_iff.mpr c6
       subst c6
       rw [if_neg (show ¬ (false = true) by decide)] at H
       by_cases c7 : 0 ≤ 13
       {
       rw [if_pos c7] at H
       have c7b0 := eq_true c7
       have c7b1 := decide_eq_true c7
       clear c7
       by_cases c8 : 13 ≤ (a0.size : Int)
       {
       rw [if_pos c8] at H
       have c8b0 := eq_true c8
       have c8b1 := decide_eq_true c8
       clear c8
       replace H := Option.bind_eq_some_iff.mp H
       obtain ⟨⟨t120, t121⟩, A90, H⟩ := H
       have A9 := Aside0.mk A90
       clear A90
       by_cases c10 : t121 = true
       {
       subst c10
       rw [if_pos rfl] at H
       by_cases c11 : 14 ≤ (a0.size : Int)
       {
       rw [if_pos c11] at H
       have c11b0 := eq_true c11
       have c11b1 := decide_eq_true c11
       clear c11
       replace H := Option.bind_eq_some_iff.mp H
       obtain ⟨t122, A120, H⟩ := H
       have A12 := Aside0.mk A120
       clear A120
       obtain rfl := Option.some.inj H
       go_wp2_with (first | ((with_reducible refine gate_callee (f := 68) rfl ?_); refine gL_ (some 16) Tryz.func68 #[.string (a0.extract 0 13)] ?_; (with_reducible refine (spec_ReadWord32.calls kj1 (a0.extract 0 13) t120 true _ A9.out).mono ?_); rintro e w' ⟨rfl, ⟨nd, rfl⟩⟩; refine ⟨_, rfl, ?_⟩) | (go_at_call 69; (with_reducible refine (spec_NameOk.calls kj1 (a0.extract 14 a0.size) t122 _ A12.out).mono ?_); rintro e w' ⟨rfl, ⟨nd, rfl⟩⟩))
       go_ret
       exact ⟨eS_, dR_⟩}
       {
       rw [if_neg c11] at H
       exact absurd H (by simp)}}
       {
       replace c10 := Bool.eq_false_iff.mpr c10
       subst c10
       rw [if_neg (show ¬ (false = true) by decide)] at H
       obtain rfl := Option.some.inj H
       go_wp2_with (first | ((with_reducible refine gate_callee (f := 68) rfl ?_); refine gL_ (some 16) Tryz.func68 #[.string (a0.extract 0 13)] ?_; (with_reducible refine (spec_ReadWord32.calls kj1 (a0.extract 0 13) t120 false _ A9.out).mono ?_); rintro e w' ⟨rfl, ⟨nd, rfl⟩⟩; refine ⟨_, rfl, ?_⟩))
       go_ret
       exact ⟨eS_, dR_⟩}}
       {
       rw [if_neg c8] at H
       exact absurd H (by simp)}}
       {
       rw [if_neg c7] at H
       exact absurd H (by simp)
}}
mutual
def spec_l10Names.l0 : Nat → ByteArray → List ByteArray → Int → Int → Option (List ByteArray × Bool)
 | 0, _, _, _, _ => none
 | k + 1, x0, x4, x5, x6 => if x6 ≤ (x0.size : Int) then (if x6 = (x0.size : Int) then (spec_l10Names.j1 k x0 x4 x5 x6 true) else (if 0 ≤ x6 then (if x6 < (x0.size : Int) then (spec_l10Names.j1 k x0 x4 x5 x6 ((bt x0 x6) == 47)) else (none)) else (none))) else (some (x4, true))
def spec_l10Names.j1 : Nat → ByteArray → List ByteArray → Int → Int → Bool → Option (List ByteArray × Bool)
 | 0, _, _, _, _, _ => none
 | k + 1, x0, x4, x5, x6, x23 => if x23 = true then (if 0 ≤ x5 then (if x5 ≤ x6 then (if x6 ≤ (x0.size : Int) then ((spec_NameOk.f k (x0.extract (x5 : Int).toNat (x6 : Int).toNat)).bind fun t126 => (if t126 = true then (if (x4.length : Int) = 8 then (some (x4, false)) else (if x4.length < 8796093022208 then (spec_l10Names.l0 k x0 (x4 ++ [x0.extract (x5 : Int).toNat (x6 : Int).toNat]) (wrap64 (x6 + 1)) (wrap64 (x6 + 1))) else (none))) else (some (x4, false)))) else (none)) else (none)) else (none)) else (spec_l10Names.l0 k x0 x4 x5 (wrap64 (x6 + 1)))
end
def spec_l10Names.f (k : Nat) (a0 : ByteArray) : Option (List ByteArray × Bool) := spec_l10Names.l0 k a0 (([] : List ByteArray)) 0 0
theorem spec_l10Names.calls (k : Nat) (a0 : ByteArray) (r1 : List ByteArray) (r2 : Bool) (w : World) (h : spec_l10Names.f k a0 = some (r1, r2)) :
 Calls Tryz.prog 89 #[.string a0] w fun e w' => ∃ v0_ : Value, e = .returned (.tuple #[v0_, .bool r2]) ∧ Kd.R Kd.string 9 w' w.heap.size (fun _ => True) v0_ r1 ∧ Below w.heap.size w w' := by
 have HB := Aside0.mk (Below.refl w.heap.size w)
 have H : (spec_l10Names.l0 k a0 (([] : List ByteArray)) 0 0) = some (r1, r2) := h
 clear h
 obtain ⟨y123, hy123⟩ : ∃ y_ : List ByteArray, y_ = (([] : List ByteArray)) := ⟨_, rfl⟩
 replace H : (spec_l10Names.l0 k a0 y123 0 0) = some (r1, r2) := rH_ hy123 H
 have Ny123 := Aside0.mk hy123
 clear hy123
 have H' := Aside0.mk H
 clear H
 go_enter Tryz.func89, Tryz.ntmps89
 go_wp2_with (first | ((with_reducible refine gate_dst (N := 7) rfl ?_); (try (refine gate_guard (by rfl) ?_; dsimp only)); refine Kd.R_lit Kd.string _ 9 ?hg (N := 7) ?hd (xs := ([] : List ByteArray)) (inner := []) (ok := fun _ => True) (okp := fun _ => True) ?hr ?hp (fun _ hk => hk) trivial (Below.refl _ _) (Nat.le_refl _) (by simp) ?_; (case hd => rfl); (case hg => rfl); (case hr => first | (go_simp; done) | (go_simp; rfl)); (case hp => exact (Reps.none _ _)); intro v124 w2 ho3 hb hg_ hnew_; clear hg_ hnew_; (first | rw [← Ny123.out] at ho3 | (simp only [Int.reduceToNat] at ho3; rw [← Ny123.out] at ho3)); have HO125 := Aside0.mk (Kd.R_lower ho3 (below_size (bw_ HB))); replace HB := Aside0.mk (below_step (bw_ HB) hb); clear hb ho3))
 go_loopg [4, 5, 6] k (fun kq v4 v5 v6 w' => ∃ (x4_1 : List ByteArray) (x5_1 : Int) (x6_1 : Int), v5 = .int .i64 x5_1 ∧ v6 = .int .i64 x6_1 ∧ Aside0 (spec_l10Names.l0 kq a0 x4_1 x5_1 x6_1 = some (r1, r2)) ∧ Aside0 (kq ≤ k) ∧ Aside0 (Kd.R Kd.string 9 w' w.heap.size (fun _ => True) v4 x4_1) ∧ Aside0 (Below w.heap.size w w'))
 case atStart => exact ⟨(y123), (0), (0), (by first | rfl | (simp; done) | (simp [*]; done)), (by first | rfl | (simp; done) | (simp [*]; done)), H', ⟨Nat.le_refl _⟩, ⟨kr_ HO125⟩, ⟨bw_ HB⟩⟩
 case round =>
  clear H'
  try clear p2
  obtain ⟨x4_1, x5_1, x6_1, rfl, rfl, HA, HK1, HO_4, HB⟩ := hrel
  cases gk with
  | zero => exact absurd HA.out (by simp [spec_l10Names.l0])
  | succ k1 =>
       have H := HA.out
       clear HA
       simp only [spec_l10Names.l0] at H
       by_cases c4 : x6_1 ≤ (a0.size : Int)
       {
       rw [if_pos c4] at H
       have c4b0 := decide_eq_true c4
       clear c4
       have HC5 := Aside0.mk H
       clear H
       go_upto_region 6 with (fail)
       go_cut [23] (fun v23 wc => ∃ (kq : Nat) (x23_4 : Bool), v23 = .bool x23_4 ∧ Aside0 (spec_l10Names.j1 kq a0 x4_1 x5_1 x6_1 x23_4 = some (r1, r2)) ∧ Aside0 (kq ≤ k1) ∧ Aside0 (Kd.R Kd.string 9 wc w.heap.size (fun _ => True) u4 x4_1) ∧ Aside0 (Below w.heap.size w wc))
       case first =>
        have H := HC5.out
        clear HC5
        by_cases c6 : x6_1 = (a0.size : Int)
        {
        rw [if_pos c6] at H
        have c6b0 : (x6_1 == (a0.size : Int)) = true := beq_iff_eq.mpr c6
        have c6b1 : (x6_1 != (a0.size : Int)) = false := bne_eq_false_iff_eq.mpr c6
        clear c6
        (first | rw [c6b0] | (simp only [i64_w, i32_w]; rw [c6b0]) | skip)
        have H' := Aside0.mk H
        clear H
        go_wp2
        go_meet
        case rel => exact ⟨_, (true), (by first | rfl | (simp; done) | (simp [*]; done)), H', ⟨by have := HK1.out; first | omega | exact Nat.le_refl _⟩, ⟨kr_ HO_4⟩, ⟨bw_ HB⟩⟩}
        {
        rw [if_neg c6] at H
        have c6b0 : (x6_1 == (a0.size : Int)) = false := beq_eq_false_iff_ne.mpr c6
        have c6b1 : (x6_1 != (a0.size : Int)) = true := bne_iff_ne.mpr c6
        (first | rw [c6b0] | (simp only [i64_w, i32_w]; rw [c6b0]) | skip)
        by_cases c7 : 0 ≤ x6_1
        {
        rw [if_pos c7] at H
        have c7b0 := decide_eq_true c7
        clear c7
        by_cases c8 : x6_1 < (a0.size : Int)
        {
        rw [if_pos c8] at H
        have c8b0 := decide_eq_true c8
        clear c8
        have H' := Aside0.mk H
        clear H
        have p9 : 0 ≤ (x6_1 : Int) := dA_
        have q9 : x6_1 < (a0.size : Int) := dA_
        have hx9 := bt_at a0 x6_1
        replace p9 := eq_true p9
        replace q9 := eq_true q9
        go_wp2
        go_meet
        case rel => exact ⟨_, (((bt a0 x6_1) == 47)), (by first | rfl | (simp; done) | (simp [*]; done)), H', ⟨by have := HK1.out; first | omega | exact Nat.le_refl _⟩, ⟨kr_ HO_4⟩, ⟨bw_ HB⟩⟩}
        {
        rw [if_neg c8] at H
        exact absurd H (by simp)}}
        {
        rw [if_neg c7] at H
        exact absurd H (by simp)}}
       case rest =>
        clear HC5
        try clear p2
        try clear c4
        try clear c4b0
        try clear c6
        try clear c6b0
        try clear c6b1
        try clear c7
        try clear c7b0
        try clear c8
        try clear c8b0
        try clear p9
        try clear q9
        try clear hx9
        try clear p2
        try clear p9
        try clear q9
        obtain ⟨kq, x23_4, rfl, HA, HJ4, HO_4, HB⟩ := hcut
        cases kq with
        | zero => exact absurd HA.out (by simp [spec_l10Names.j1])
        | succ kj4 =>
             have H := HA.out
             clear HA
             simp only [spec_l10Names.j1] at H
             by_cases c10 : x23_4 = true
             {
             subst c10
             rw [if_pos rfl] at H
             by_cases c11 : 0 ≤ x5_1
             {
             rw [if_pos c11] at H
             have c11b0 := eq_true c11
             have c11b1 := decide_eq_true c11
             clear c11
             by_cases c12 : x5_1 ≤ x6_1
             {
             rw [if_pos c12] at H
             have c12b0 := eq_true c12
             have c12b1 := decide_eq_true c12
             clear c12
             by_cases c13 : x6_1 ≤ (a0.size : Int)
             {
             rw [if_pos c13] at H
             have c13b0 := eq_true c13
             have c13b1 := decide_eq_true c13
             clear c13
             replace H := Option.bind_eq_some_iff.mp H
             obtain ⟨t126, A140, H⟩ := H
             have A14 := Aside0.mk A140
             clear A140
             by_cases c15 : t126 = true
             {
             subst c15
             rw [if_pos rfl] at H
             by_cases c16 : (x4_1.length : Int) = 8
             {
             rw [if_pos c16] at H
             have c16b0 : ((x4_1.length : Int) == 8) = true := beq_iff_eq.mpr c16
             have c16b1 : ((x4_1.length : Int) != 8) = false := bne_eq_false_iff_eq.mpr c16
             clear c16
             simp only [Option.some.injEq, Prod.mk.injEq] at H
             obtain ⟨rfl, rfl⟩ := H
             go_wp2_with (first | ((with_reducible refine gate_callee (f := 69) rfl ?_); refine gL_ (some 28) Tryz.func69 #[.string (a0.extract (x5_1 : Int).toNat (x6_1 : Int).toNat)] ?_; (with_reducible refine (spec_NameOk.calls kj4 (a0.extract (x5_1 : Int).toNat (x6_1 : Int).toNat) true _ A14.out).mono ?_); rintro e w' ⟨rfl, ⟨nd, rfl⟩⟩; refine ⟨_, rfl, ?_⟩; obtain ⟨Ao17, co17, eo17⟩ := Kd.R_slice HO_4.out; subst eo17))
             go_ret2
             exact ⟨_, eR_, kr_ HO_4, bw_ HB⟩}
             {
             rw [if_neg c16] at H
             have c16b0 : ((x4_1.length : Int) == 8) = false := beq_eq_false_iff_ne.mpr c16
             have c16b1 : ((x4_1.length : Int) != 8) = true := bne_iff_ne.mpr c16
             have c18b0 := eq_true (dA_ : 0 ≤ x5_1)
             have c19b0 := eq_true (dA_ : x5_1 ≤ x6_1)
             have c20b0 := eq_true (dA_ : x6_1 ≤ (a0.size : Int))
             by_cases c21 : x4_1.length < 8796093022208
             {
             rw [if_pos c21] at H
             have LMc21 := Aside0.mk c21
             clear c21
             obtain ⟨y127, hy127⟩ : ∃ y_ : List ByteArray, y_ = (x4_1 ++ [a0.extract (x5_1 : Int).toNat (x6_1 : Int).toNat]) := ⟨_, rfl⟩
             replace H : (spec_l10Names.l0 kj4 a0 y127 (wrap64 (x6_1 + 1)) (wrap64 (x6_1 + 1))) = some (r1, r2) := rH_ hy127 H
             have Ny127 := Aside0.mk hy127
             clear hy127
             have H' := Aside0.mk H
             clear H
             go_wp2_with (first | ((with_reducible refine gate_callee (f := 69) rfl ?_); refine gL_ (some 28) Tryz.func69 #[.string (a0.extract (x5_1 : Int).toNat (x6_1 : Int).toNat)] ?_; (with_reducible refine (spec_NameOk.calls kj4 (a0.extract (x5_1 : Int).toNat (x6_1 : Int).toNat) true _ A14.out).mono ?_); rintro e w' ⟨rfl, ⟨nd, rfl⟩⟩; refine ⟨_, rfl, ?_⟩; obtain ⟨Ao22, co22, eo22⟩ := Kd.R_slice HO_4.out; subst eo22) | ((with_reducible refine gate_builtin (b := .append) (xs := #[.tmp 36, .tmp 41]) rfl ?_); (try (refine gate_guard (by rfl) ?_; dsimp only)); at_builtin; refine Kd.R_append Kd.string (w0 := w) w.heap.size rfl (.tmp 36) (.tmp 41) 29 9 (.string ⟨#[]⟩) 16 rfl Tryz.underlying29 info9 rfl (by decide) (by omega) (.slice Ao22 x4_1.length co22) x4_1 (a0.extract (x5_1 : Int).toNat (x6_1 : Int).toNat) [.string (a0.extract (x5_1 : Int).toNat (x6_1 : Int).toNat)] (fun _ => True) (fun _ => False) rfl rfl ?aP (fun _ hk => hk.elim) ?aF ?aO ?aB ?aS ?aL ?_; (case aP => exact rfl); (case aB => exact (bw_ HB)); (case aF => exact (fun _ _ => trivial)); (case aO => exact (kr_ HO_4)); (case aS => exact (below_size (bw_ HB))); (case aL => have := LMc21.out; omega); intro v128 w23 ho hb hg hat; rw [← Ny127.out] at ho; replace HB := Aside0.mk (hb); have HO129 := Aside0.mk (ho); clear HO_4; clear ho hb hg hat))
             go_roundg kj4
             case measure => have := HK1.out; have := HJ4.out; omega
             case rel => exact ⟨(y127), (wrap64 (x6_1 + 1)), (wrap64 (x6_1 + 1)), (by first | rfl | (simp; done) | (simp [*]; done)), (by first | rfl | (simp; done) | (simp [*]; done)), H', ⟨by have := HK1.out; have := HJ4.out; omega⟩, ⟨kr_ HO129⟩, ⟨bw_ HB⟩⟩}
             {
             rw [if_neg c21] at H
             exact absurd H (by simp)}}}
             {
             replace c15 := Bool.eq_false_iff.mpr c15
             subst c15
             rw [if_neg (show ¬ (false = true) by decide)] at H
             simp only [Option.some.injEq, Prod.mk.injEq] at H
             obtain ⟨rfl, rfl⟩ := H
             go_wp2_with (first | ((with_reducible refine gate_callee (f := 69) rfl ?_); refine gL_ (some 28) Tryz.func69 #[.string (a0.extract (x5_1 : Int).toNat (x6_1 : Int).toNat)] ?_; (with_reducible refine (spec_NameOk.calls kj4 (a0.extract (x5_1 : Int).toNat (x6_1 : Int).toNat) false _ A14.out).mono ?_); rintro e w' ⟨rfl, ⟨nd, rfl⟩⟩; refine ⟨_, rfl, ?_⟩))
             go_ret2
             exact ⟨_, eR_, kr_ HO_4, bw_ HB⟩}}
             {
             rw [if_neg c13] at H
             exact absurd H (by simp)}}
             {
             rw [if_neg c12] at H
             exact absurd H (by simp)}}
             {
             rw [if_neg c11] at H
             exact absurd H (by simp)}}
             {
             replace c10 := Bool.eq_false_iff.mpr c10
             subst c10
             rw [if_neg (show ¬ (false = true) by decide)] at H
             have H' := Aside0.mk H
             clear H
             go_wp2
             go_roundg kj4
             case measure => have := HK1.out; have := HJ4.out; omega
             case rel => exact ⟨(x4_1), (x5_1), (wrap64 (x6_1 + 1)), (by first | rfl | (simp; done) | (simp [*]; done)), (by first | rfl | (simp; done) | (simp [*]; done)), H', ⟨by have := HK1.out; have := HJ4.out; omega⟩, ⟨kr_ HO_4⟩, ⟨bw_ HB⟩⟩}}
       {
       rw [if_neg c4] at H
       have c4b0 := decide_eq_false c4
       clear c4
       simp only [Option.some.injEq, Prod.mk.injEq] at H
       obtain ⟨rfl, rfl⟩ := H
       go_wp2
       go_ret2
       exact ⟨_, eR_, kr_ HO_4, bw_ HB⟩
}
def spec_l10EntryOk.j0 : Nat → Bool → ByteArray → Int → ByteArray → Bool → Option (Bool)
 | 0, _, _, _, _, _ => none
 | k + 1, x18, x131000, x131001, x131002, x131003 => if x18 = true then (some false) else (if x131001 = 1 then (if x131002.toList = ([] : List UInt8) then (some (!x131003)) else (some false)) else (if x131001 = 2 then (some true) else (if x131001 = 3 then (if x131002.toList = ([] : List UInt8) then (some false) else (some (!x131003))) else (some false))))
def spec_l10EntryOk.f (k : Nat) (a0_0 : ByteArray) (a0_1 : Int) (a0_2 : ByteArray) (a0_3 : Bool) : Option (Bool) := (spec_l10Names.f k a0_0).bind fun bt131 => (if bt131.2 = true then (spec_l10EntryOk.j0 k (decide ((a0_2.size : Int) > 20000)) a0_0 a0_1 a0_2 a0_3) else (spec_l10EntryOk.j0 k true a0_0 a0_1 a0_2 a0_3))
theorem spec_l10EntryOk.calls (k : Nat) (a0_0 : ByteArray) (a0_1 : Int) (a0_2 : ByteArray) (a0_3 : Bool) (r : Bool) (w : World) (h : spec_l10EntryOk.f k a0_0 a0_1 a0_2 a0_3 = some r) :
 Calls Tryz.prog 70 #[.agg #[.string a0_0, .int .i64 a0_1, .string a0_2, .bool a0_3]] w fun e w' => e = .returned (.bool r) ∧ Below w.heap.size w w' := by
 have hu57 := Tryz.underlying57
 have HB := Aside0.mk (Below.refl w.heap.size w)
 have H : ((spec_l10Names.f k a0_0).bind fun bt131 => (if bt131.2 = true then (spec_l10EntryOk.j0 k (decide ((a0_2.size : Int) > 20000)) a0_0 a0_1 a0_2 a0_3) else (spec_l10EntryOk.j0 k true a0_0 a0_1 a0_2 a0_3))) = some r := h
 clear h
 replace H := Option.bind_eq_some_iff.mp H
 obtain ⟨⟨t131, t132⟩, A20, H⟩ := H
 have A2 := Aside0.mk A20
 clear A20
 have HC3 := Aside0.mk H
 clear H
 go_enter Tryz.func70, Tryz.ntmps70
 go_upto_region 2 with (first | ((with_reducible refine gate_dst (N := 1) rfl ?_); (try (refine gate_guard (by rfl) ?_; dsimp only)); refine bE_ 1 #[.string a0_0, .int .i64 a0_1, .string a0_2, .bool a0_3] 57 ?_; intro gb130 hg w4 hbox hb; have BK130 := Aside0.mk (hbox); have GW130 := Aside0.mk (ge_ hg (bw_ HB)); have GE130 := Aside0.mk (ge_ hg (bw_ HB)); replace HB := Aside0.mk (below_step (bw_ HB) hb); clear hb hbox hg; have hcz5_0 := cz_ BK130 0 (.string a0_0); have hcz5_1 := cz_ BK130 1 (.int .i64 a0_1); have hcz5_2 := cz_ BK130 2 (.string a0_2); have hcz5_3 := cz_ BK130 3 (.bool a0_3); have hfz5_0 := blk_frozen BK130.out 0; have hfz5_1 := blk_frozen BK130.out 1; have hfz5_2 := blk_frozen BK130.out 2; have hfz5_3 := blk_frozen BK130.out 3) | ((with_reducible refine gate_callee (f := 89) rfl ?_); refine gL_ (some 8) Tryz.func89 #[.string a0_0] ?_; (with_reducible refine (spec_l10Names.calls k a0_0 t131 t132 _ A2.out).mono ?_); rintro e w6 ⟨v133, rfl, ho0, hb⟩; refine ⟨_, rfl, ?_⟩; have HO134 := Aside0.mk (Kd.R_lower ho0 (below_size (bw1_ HB GE130))); replace BK130 := Aside0.mk (blk_below (bk_ BK130) hb); replace HB := Aside0.mk (below_step (bw1_ HB GE130) hb); clear hb; (try clear ho0)))
 (try simp only [Act.put, List.setIfInBounds_toArray, List.set_cons_zero, List.set_cons_succ])
 go_cut [18] (fun v18 wc => ∃ (kq : Nat) (x18_2 : Bool), v18 = .bool x18_2 ∧ Aside0 (spec_l10EntryOk.j0 kq x18_2 a0_0 a0_1 a0_2 a0_3 = some r) ∧ Aside0 (kq ≤ k) ∧ Aside0 (wc.heap[gb130]? = some (.cells #[.string a0_0, .int .i64 a0_1, .string a0_2, .bool a0_3] 57 (0, 0))) ∧ Aside0 (Below w.heap.size w wc))
 case first =>
  have H := HC3.out
  clear HC3
  by_cases c7 : t132 = true
  {
  subst c7
  rw [if_pos rfl] at H
  have H' := Aside0.mk H
  clear H
  have hcz8_0 := cz_ BK130 0 (.string a0_0)
  have hcz8_1 := cz_ BK130 1 (.int .i64 a0_1)
  have hcz8_2 := cz_ BK130 2 (.string a0_2)
  have hcz8_3 := cz_ BK130 3 (.bool a0_3)
  have hfz8_0 := blk_frozen BK130.out 0
  have hfz8_1 := blk_frozen BK130.out 1
  have hfz8_2 := blk_frozen BK130.out 2
  have hfz8_3 := blk_frozen BK130.out 3
  go_wp2
  go_meet
  case rel => exact ⟨_, (decide ((a0_2.size : Int) > 20000)), (by first | rfl | (simp; done) | (simp [*]; done)), H', ⟨by first | omega | exact Nat.le_refl _⟩, ⟨bk_ BK130⟩, ⟨bw1_ HB GE130⟩⟩}
  {
  replace c7 := Bool.eq_false_iff.mpr c7
  subst c7
  rw [if_neg (show ¬ (false = true) by decide)] at H
  have H' := Aside0.mk H
  clear H
  go_wp2
  go_meet
  case rel => exact ⟨_, (true), (by first | rfl | (simp; done) | (simp [*]; done)), H', ⟨by first | omega | exact Nat.le_refl _⟩, ⟨bk_ BK130⟩, ⟨bw1_ HB GE130⟩⟩}
 case rest =>
  clear HC3
  try clear p2
  try clear c7
  try clear c8
  try clear hcz5_0
  try clear hcz5_1
  try clear hcz5_2
  try clear hcz5_3
  try clear hcz8_0
  try clear hcz8_1
  try clear hcz8_2
  try clear hcz8_3
  try clear hfz5_0
  try clear hfz5_1
  try clear hfz5_2
  try clear hfz5_3
  try clear hfz8_0
  try clear hfz8_1
  try clear hfz8_2
  try clear hfz8_3
  obtain ⟨kq, x18_2, rfl, HA, HJ2, BK130, HB⟩ := hcut
  cases kq with
  | zero => exact absurd HA.out (by simp [spec_l10EntryOk.j0])
  | succ kj2 =>
       have H := HA.out
       clear HA
       simp only [spec_l10EntryOk.j0] at H
       by_cases c9 : x18_2 = true
       {
       subst c9
       rw [if_pos rfl] at H
       obtain rfl := Option.some.inj H
       go_wp2
       go_ret
       exact ⟨eR_, bw1_ HB GE130⟩}
       {
       replace c9 := Bool.eq_false_iff.mpr c9
       subst c9
       rw [if_neg (show ¬ (false = true) by decide)] at H
       by_cases c10 : a0_1 = 1
       {
       rw [if_pos c10] at H
       have c10b0 : (a0_1 == 1) = true := beq_iff_eq.mpr c10
       have c10b1 : (a0_1 != 1) = false := bne_eq_false_iff_eq.mpr c10
       clear c10
       by_cases c11 : a0_2.toList = ([] : List UInt8)
       {
       rw [if_pos c11] at H
       have c11b0 : (a0_2.toList == ([] : List UInt8)) = true := beq_iff_eq.mpr c11
       have c11b1 : (a0_2.toList != ([] : List UInt8)) = false := bne_eq_false_iff_eq.mpr c11
       clear c11
       obtain rfl := Option.some.inj H
       have hcz12_0 := cz_ BK130 0 (.string a0_0)
       have hcz12_1 := cz_ BK130 1 (.int .i64 a0_1)
       have hcz12_2 := cz_ BK130 2 (.string a0_2)
       have hcz12_3 := cz_ BK130 3 (.bool a0_3)
       have hfz12_0 := blk_frozen BK130.out 0
       have hfz12_1 := blk_frozen BK130.out 1
       have hfz12_2 := blk_frozen BK130.out 2
       have hfz12_3 := blk_frozen BK130.out 3
       go_wp2
       go_ret
       exact ⟨eR_, bw1_ HB GE130⟩}
       {
       rw [if_neg c11] at H
       have c11b0 : (a0_2.toList == ([] : List UInt8)) = false := beq_eq_false_iff_ne.mpr c11
       have c11b1 : (a0_2.toList != ([] : List UInt8)) = true := bne_iff_ne.mpr c11
       obtain rfl := Option.some.inj H
       have hcz13_0 := cz_ BK130 0 (.string a0_0)
       have hcz13_1 := cz_ BK130 1 (.int .i64 a0_1)
       have hcz13_2 := cz_ BK130 2 (.string a0_2)
       have hcz13_3 := cz_ BK130 3 (.bool a0_3)
       have hfz13_0 := blk_frozen BK130.out 0
       have hfz13_1 := blk_frozen BK130.out 1
       have hfz13_2 := blk_frozen BK130.out 2
       have hfz13_3 := blk_frozen BK130.out 3
       go_wp2
       go_ret
       exact ⟨eR_, bw1_ HB GE130⟩}}
       {
       rw [if_neg c10] at H
       have c10b0 : (a0_1 == 1) = false := beq_eq_false_iff_ne.mpr c10
       have c10b1 : (a0_1 != 1) = true := bne_iff_ne.mpr c10
       by_cases c14 : a0_1 = 2
       {
       rw [if_pos c14] at H
       have c14b0 : (a0_1 == 2) = true := beq_iff_eq.mpr c14
       have c14b1 : (a0_1 != 2) = false := bne_eq_false_iff_eq.mpr c14
       clear c14
       obtain rfl := Option.some.inj H
       have hcz15_0 := cz_ BK130 0 (.string a0_0)
       have hcz15_1 := cz_ BK130 1 (.int .i64 a0_1)
       have hcz15_2 := cz_ BK130 2 (.string a0_2)
       have hcz15_3 := cz_ BK130 3 (.bool a0_3)
       have hfz15_0 := blk_frozen BK130.out 0
       have hfz15_1 := blk_frozen BK130.out 1
       have hfz15_2 := blk_frozen BK130.out 2
       have hfz15_3 := blk_frozen BK130.out 3
       go_wp2
       go_ret
       exact ⟨eR_, bw1_ HB GE130⟩}
       {
       rw [if_neg c14] at H
       have c14b0 : (a0_1 == 2) = false := beq_eq_false_iff_ne.mpr c14
       have c14b1 : (a0_1 != 2) = true := bne_iff_ne.mpr c14
       by_cases c16 : a0_1 = 3
       {
       rw [if_pos c16] at H
       have c16b0 : (a0_1 == 3) = true := beq_iff_eq.mpr c16
       have c16b1 : (a0_1 != 3) = false := bne_eq_false_iff_eq.mpr c16
       clear c16
       by_cases c17 : a0_2.toList = ([] : List UInt8)
       {
       rw [if_pos c17] at H
       have c17b0 : (a0_2.toList == ([] : List UInt8)) = true := beq_iff_eq.mpr c17
       have c17b1 : (a0_2.toList != ([] : List UInt8)) = false := bne_eq_false_iff_eq.mpr c17
       clear c17
       obtain rfl := Option.some.inj H
       have hcz18_0 := cz_ BK130 0 (.string a0_0)
       have hcz18_1 := cz_ BK130 1 (.int .i64 a0_1)
       have hcz18_2 := cz_ BK130 2 (.string a0_2)
       have hcz18_3 := cz_ BK130 3 (.bool a0_3)
       have hfz18_0 := blk_frozen BK130.out 0
       have hfz18_1 := blk_frozen BK130.out 1
       have hfz18_2 := blk_frozen BK130.out 2
       have hfz18_3 := blk_frozen BK130.out 3
       go_wp2
       go_ret
       exact ⟨eR_, bw1_ HB GE130⟩}
       {
       rw [if_neg c17] at H
       have c17b0 : (a0_2.toList == ([] : List UInt8)) = false := beq_eq_false_iff_ne.mpr c17
       have c17b1 : (a0_2.toList != ([] : List UInt8)) = true := bne_iff_ne.mpr c17
       obtain rfl := Option.some.inj H
       have hcz19_0 := cz_ BK130 0 (.string a0_0)
       have hcz19_1 := cz_ BK130 1 (.int .i64 a0_1)
       have hcz19_2 := cz_ BK130 2 (.string a0_2)
       have hcz19_3 := cz_ BK130 3 (.bool a0_3)
       have hfz19_0 := blk_frozen BK130.out 0
       have hfz19_1 := blk_frozen BK130.out 1
       have hfz19_2 := blk_frozen BK130.out 2
       have hfz19_3 := blk_frozen BK130.out 3
       go_wp2
       go_ret
       exact ⟨eR_, bw1_ HB GE130⟩}}
       {
       rw [if_neg c16] at H
       have c16b0 : (a0_1 == 3) = false := beq_eq_false_iff_ne.mpr c16
       have c16b1 : (a0_1 != 3) = true := bne_iff_ne.mpr c16
       obtain rfl := Option.some.inj H
       have hcz20_0 := cz_ BK130 0 (.string a0_0)
       have hcz20_1 := cz_ BK130 1 (.int .i64 a0_1)
       have hcz20_2 := cz_ BK130 2 (.string a0_2)
       have hcz20_3 := cz_ BK130 3 (.bool a0_3)
       have hfz20_0 := blk_frozen BK130.out 0
       have hfz20_1 := blk_frozen BK130.out 1
       have hfz20_2 := blk_frozen BK130.out 2
       have hfz20_3 := blk_frozen BK130.out 3
       go_wp2
       go_ret
       exact ⟨eR_, bw1_ HB GE130⟩
}}}}
def spec_l10Up.l0 : Nat → ByteArray → Int → Option (ByteArray)
 | 0, _, _ => none
 | k + 1, x0, x3 => if x3 ≥ 0 then (if 0 ≤ x3 then (if x3 < (x0.size : Int) then (if (bt x0 x3) = 47 then (if x3 ≤ (x0.size : Int) then (some (x0.extract 0 (x3 : Int).toNat)) else (none)) else (spec_l10Up.l0 k x0 (wrap64 (x3 - 1)))) else (none)) else (none)) else (some (⟨#[]⟩ : ByteArray))
def spec_l10Up.f (k : Nat) (a0 : ByteArray) : Option (ByteArray) := spec_l10Up.l0 k a0 (wrap64 ((a0.size : Int) - 1))
theorem spec_l10Up.calls (k : Nat) (a0 : ByteArray) (r : ByteArray) (w : World) (h : spec_l10Up.f k a0 = some r) :
 Calls Tryz.prog 71 #[.string a0] w fun e w' => e = .returned (.string r) ∧ Drawn0 w w' := by
 have H : (spec_l10Up.l0 k a0 (wrap64 ((a0.size : Int) - 1))) = some r := h
 clear h
 have H' := Aside0.mk H
 clear H
 go_enter Tryz.func71, Tryz.ntmps71
 go_wp2
 go_loopg [3] k (fun kq v3 w' => ∃ (x3_1 : Int), v3 = .int .i64 x3_1 ∧ Aside0 (spec_l10Up.l0 kq a0 x3_1 = some r) ∧ Aside0 (kq ≤ k) ∧ Drawn0 w w')
 case atStart => exact ⟨(wrap64 ((a0.size : Int) - 1)), (by first | rfl | (simp; done) | (simp [*]; done)), H', ⟨Nat.le_refl _⟩, dR_⟩
 case round =>
  clear H'
  obtain ⟨x3_1, rfl, HA, HK1, ⟨m1, rfl⟩⟩ := hrel
  cases gk with
  | zero => exact absurd HA.out (by simp [spec_l10Up.l0])
  | succ k1 =>
       have H := HA.out
       clear HA
       simp only [spec_l10Up.l0] at H
       by_cases c2 : x3_1 ≥ 0
       {
       rw [if_pos c2] at H
       have c2b0 : decide (0 ≤ x3_1) = true := decide_eq_true c2
       clear c2
       by_cases c3 : 0 ≤ x3_1
       {
       rw [if_pos c3] at H
       have c3b0 := decide_eq_true c3
       clear c3
       by_cases c4 : x3_1 < (a0.size : Int)
       {
       rw [if_pos c4] at H
       have c4b0 := decide_eq_true c4
       clear c4
       by_cases c6 : (bt a0 x3_1) = 47
       {
       rw [if_pos c6] at H
       have c6b0 : ((bt a0 x3_1) == 47) = true := beq_iff_eq.mpr c6
       have c6b1 : ((bt a0 x3_1) != 47) = false := bne_eq_false_iff_eq.mpr c6
       clear c6
       have c7b0 := eq_true (dA_ : 0 ≤ x3_1)
       by_cases c8 : x3_1 ≤ (a0.size : Int)
       {
       rw [if_pos c8] at H
       have c8b0 := eq_true c8
       have c8b1 := decide_eq_true c8
       clear c8
       obtain rfl := Option.some.inj H
       have p5 : 0 ≤ (x3_1 : Int) := dA_
       have q5 : x3_1 < (a0.size : Int) := dA_
       have hx5 := bt_at a0 x3_1
       replace p5 := eq_true p5
       replace q5 := eq_true q5
       go_wp2
       go_ret
       exact ⟨eS_, dR_⟩}
       {
       rw [if_neg c8] at H
       exact absurd H (by simp)}}
       {
       rw [if_neg c6] at H
       have c6b0 : ((bt a0 x3_1) == 47) = false := beq_eq_false_iff_ne.mpr c6
       have c6b1 : ((bt a0 x3_1) != 47) = true := bne_iff_ne.mpr c6
       have H' := Aside0.mk H
       clear H
       have p5 : 0 ≤ (x3_1 : Int) := dA_
       have q5 : x3_1 < (a0.size : Int) := dA_
       have hx5 := bt_at a0 x3_1
       replace p5 := eq_true p5
       replace q5 := eq_true q5
       go_wp2
       go_roundg k1
       case measure => have := HK1.out; omega
       case rel => exact ⟨(wrap64 (x3_1 - 1)), (by first | rfl | (simp; done) | (simp [*]; done)), H', ⟨by have := HK1.out; omega⟩, dR_⟩}}
       {
       rw [if_neg c4] at H
       exact absurd H (by simp)}}
       {
       rw [if_neg c3] at H
       exact absurd H (by simp)}}
       {
       rw [if_neg c2] at H
       have c2b0 : decide (0 ≤ x3_1) = false := decide_eq_false c2
       clear c2
       obtain rfl := Option.some.inj H
       go_wp2
       go_ret
       exact ⟨eS_, dR_⟩
}
mutual
def impl_TreeOk.l0 : Nat → List (S57) → List (ByteArray × Int) → List (S57) → Int → Int → Option (Bool)
 | 0, _, _, _, _, _ => none
 | k + 1, x0, x3, x14, x15, x16 => if x16 < x15 then (if 0 ≤ x16 then (if x16 < (x14.length : Int) then ((impl_pathOk.f k ((rd_T57 x14 x16).f0)).bind fun t366 => (if t366 = true then (if x16 > 0 then (if 0 ≤ (wrap64 (x16 - 1)) then (if (wrap64 (x16 - 1)) < (x0.length : Int) then (if ((Op.bytesLess (((rd_T57 x0 (wrap64 (x16 - 1))).f0).toList) (((rd_T57 x14 x16).f0).toList)) = true) then (if (rd_T57 x14 x16).f3 = true then (impl_TreeOk.j1 k x0 x3 x14 x15 x16 (((rd_T57 x14 x16).f1) != 2) ((rd_T57 x14 x16).f0) ((rd_T57 x14 x16).f1) ((rd_T57 x14 x16).f2) ((rd_T57 x14 x16).f3)) else (impl_TreeOk.j1 k x0 x3 x14 x15 x16 false ((rd_T57 x14 x16).f0) ((rd_T57 x14 x16).f1) ((rd_T57 x14 x16).f2) ((rd_T57 x14 x16).f3))) else (impl_TreeOk.j1 k x0 x3 x14 x15 x16 true ((rd_T57 x14 x16).f0) ((rd_T57 x14 x16).f1) ((rd_T57 x14 x16).f2) ((rd_T57 x14 x16).f3))) else (none)) else (none)) else (if (rd_T57 x14 x16).f3 = true then (impl_TreeOk.j1 k x0 x3 x14 x15 x16 (((rd_T57 x14 x16).f1) != 2) ((rd_T57 x14 x16).f0) ((rd_T57 x14 x16).f1) ((rd_T57 x14 x16).f2) ((rd_T57 x14 x16).f3)) else (impl_TreeOk.j1 k x0 x3 x14 x15 x16 false ((rd_T57 x14 x16).f0) ((rd_T57 x14 x16).f1) ((rd_T57 x14 x16).f2) ((rd_T57 x14 x16).f3)))) else (impl_TreeOk.j1 k x0 x3 x14 x15 x16 true ((rd_T57 x14 x16).f0) ((rd_T57 x14 x16).f1) ((rd_T57 x14 x16).f2) ((rd_T57 x14 x16).f3)))) else (none)) else (none)) else (impl_TreeOk.l1 k x3 x0 (x0.length : Int) 0)
def impl_TreeOk.j1 : Nat → List (S57) → List (ByteArray × Int) → List (S57) → Int → Int → Bool → ByteArray → Int → ByteArray → Bool → Option (Bool)
 | 0, _, _, _, _, _, _, _, _, _, _ => none
 | k + 1, x0, x3, x14, x15, x16, x48, x366000, x366001, x366002, x366003 => if x48 = true then (some false) else (if x366001 = 1 then (if x366002.toList = ([] : List UInt8) then (if x3.length < 1099511627776 then (if x366000.size ≤ 9223372036854775807 then (impl_TreeOk.l0 k x0 (x3 ++ [(x366000, 1)]) x14 x15 (wrap64 (x16 + 1))) else (none)) else (none)) else (some false)) else (if x366001 = 2 then (if (x366002.size : Int) > 20000 then (some false) else (impl_TreeOk.l0 k x0 x3 x14 x15 (wrap64 (x16 + 1)))) else (if x366001 = 3 then (if (x366002.size : Int) < 1 then (some false) else (if (x366002.size : Int) > 20000 then (some false) else (impl_TreeOk.l0 k x0 x3 x14 x15 (wrap64 (x16 + 1))))) else (some false))))
def impl_TreeOk.l1 : Nat → List (ByteArray × Int) → List (S57) → Int → Int → Option (Bool)
 | 0, _, _, _, _ => none
 | k + 1, x3, x78, x79, x80 => if x80 < x79 then (if 0 ≤ x80 then (if x80 < (x78.length : Int) then ((impl_upper.f ((rd_T57 x78 x80).f0)).bind fun bt371 => (if bt371.2 = true then (if bt371.1.size ≤ 9223372036854775807 then (if (mgetD 0 x3 bt371.1) = 0 then (some false) else (impl_TreeOk.l1 k x3 x78 x79 (wrap64 (x80 + 1)))) else (none)) else (impl_TreeOk.l1 k x3 x78 x79 (wrap64 (x80 + 1))))) else (none)) else (none)) else (some true)
end
def impl_TreeOk.f (k : Nat) (l0 : List (S57)) : Option (Bool) := if (l0.length : Int) > 500 then (some false) else (impl_TreeOk.l0 k l0 (([] : List (ByteArray × Int))) l0 (l0.length : Int) 0)
theorem impl_TreeOk.mono_l : ∀ k, (∀ y0 y1 y2 y3 y4, LeO (impl_TreeOk.l0 k y0 y1 y2 y3 y4) (impl_TreeOk.l0 (k + 1) y0 y1 y2 y3 y4)) ∧ (∀ y0 y1 y2 y3 y4 y5 y6 y7 y8 y9, LeO (impl_TreeOk.j1 k y0 y1 y2 y3 y4 y5 y6 y7 y8 y9) (impl_TreeOk.j1 (k + 1) y0 y1 y2 y3 y4 y5 y6 y7 y8 y9)) ∧ (∀ y0 y1 y2 y3, LeO (impl_TreeOk.l1 k y0 y1 y2 y3) (impl_TreeOk.l1 (k + 1) y0 y1 y2 y3))
 | 0 => ⟨fun _ _ _ _ _ r h => by simp [impl_TreeOk.l0] at h, fun _ _ _ _ _ _ _ _ _ _ r h => by simp [impl_TreeOk.j1] at h, fun _ _ _ _ r h => by simp [impl_TreeOk.l1] at h⟩
 | k + 1 => by
      obtain ⟨ih0, ih1, ih2⟩ := impl_TreeOk.mono_l k
      refine ⟨?_, ?_, ?_⟩
      {
      intro y0 y1 y2 y3 y4
      unfold impl_TreeOk.l0
      repeat' first
      | (with_reducible exact ih0 _ _ _ _ _)
      | (with_reducible exact ih1 _ _ _ _ _ _ _ _ _ _)
      | (with_reducible exact ih2 _ _ _ _)
      | (with_reducible exact impl_pathOk.mono _ _)
      | (with_reducible exact LeO.refl _)
      | (with_reducible exact LeO.none _)
      | (with_reducible refine LeO.ite ?_ ?_)
      | (with_reducible refine LeO.bind ?_ (fun _ => ?_))
      | exact ih0 _ _ _ _ _
      | exact ih1 _ _ _ _ _ _ _ _ _ _
      | exact ih2 _ _ _ _
      | exact impl_pathOk.mono _ _
      | exact LeO.none _
      | refine LeO.ite ?_ ?_
      | refine LeO.bind ?_ (fun _ => ?_)}
      {
      intro y0 y1 y2 y3 y4 y5 y6 y7 y8 y9
      unfold impl_TreeOk.j1
      repeat' first
      | (with_reducible exact ih0 _ _ _ _ _)
      | (with_reducible exact ih1 _ _ _ _ _ _ _ _ _ _)
      | (with_reducible exact ih2 _ _ _ _)
      | (with_reducible exact impl_pathOk.mono _ _)
      | (with_reducible exact LeO.refl _)
      | (with_reducible exact LeO.none _)
      | (with_reducible refine LeO.ite ?_ ?_)
      | (with_reducible refine LeO.bind ?_ (fun _ => ?_))
      | exact ih0 _ _ _ _ _
      | exact ih1 _ _ _ _ _ _ _ _ _ _
      | exact ih2 _ _ _ _
      | exact impl_pathOk.mono _ _
      | exact LeO.none _
      | refine LeO.ite ?_ ?_
      | refine LeO.bind ?_ (fun _ => ?_)}
      {
      intro y0 y1 y2 y3
      unfold impl_TreeOk.l1
      repeat' first
      | (with_reducible exact ih0 _ _ _ _ _)
      | (with_reducible exact ih1 _ _ _ _ _ _ _ _ _ _)
      | (with_reducible exact ih2 _ _ _ _)
      | (with_reducible exact impl_pathOk.mono _ _)
      | (with_reducible exact LeO.refl _)
      | (with_reducible exact LeO.none _)
      | (with_reducible refine LeO.ite ?_ ?_)
      | (with_reducible refine LeO.bind ?_ (fun _ => ?_))
      | exact ih0 _ _ _ _ _
      | exact ih1 _ _ _ _ _ _ _ _ _ _
      | exact ih2 _ _ _ _
      | exact impl_pathOk.mono _ _
      | exact LeO.none _
      | refine LeO.ite ?_ ?_
      | refine LeO.bind ?_ (fun _ => ?_)}
theorem impl_TreeOk.mono : ∀ a0 k, LeO (impl_TreeOk.f k a0) (impl_TreeOk.f (k + 1) a0) := by
 intro a0 k
 obtain ⟨ih0, ih1, ih2⟩ := impl_TreeOk.mono_l k
 unfold impl_TreeOk.f
 repeat' first
  | (with_reducible exact ih0 _ _ _ _ _)
  | (with_reducible exact ih1 _ _ _ _ _ _ _ _ _ _)
  | (with_reducible exact ih2 _ _ _ _)
  | (with_reducible exact impl_pathOk.mono _ _)
  | (with_reducible exact LeO.refl _)
  | (with_reducible exact LeO.none _)
  | (with_reducible refine LeO.ite ?_ ?_)
  | (with_reducible refine LeO.bind ?_ (fun _ => ?_))
  | exact ih0 _ _ _ _ _
  | exact ih1 _ _ _ _ _ _ _ _ _ _
  | exact ih2 _ _ _ _
  | exact impl_pathOk.mono _ _
  | exact LeO.none _
  | refine LeO.ite ?_ ?_
  | refine LeO.bind ?_ (fun _ => ?_)
def impl_TreeOk.T7 : Bool × List (List Nat × List Nat) := (true, [([], []), ([0], [0]), ([1], [1]), ([2], [2]), ([3, 2], [3]), ([4], [4]), ([5, 4], [4, 5]), ([6, 4, 4], [4, 6]), ([7], [7]), ([8, 7], [7, 8]), ([7], [7]), ([7], [7]), ([11, 7], [7, 11]), ([10, 12, 7], [7, 10, 12]), ([13, 7], [7, 13]), ([14, 7], [7, 14]), ([9, 15, 7], [7, 9, 15]), ([7, 16, 4], [4, 7, 16]), ([4, 17], [4, 17]), ([18, 7], [18]), ([19], [19]), ([20, 19], [19, 20]), ([21, 19, 19], [19, 21]), ([22], [22]), ([23, 22], [22, 23]), ([24, 22], [22, 24]), ([22, 25, 19], [19, 22, 25]), ([19, 26], [19, 26])])
def impl_TreeOk.B7 : List Nat := [0, 1, 3, 7, 15, 31, 63, 127, 255, 511, 255, 255, 2303, 7423, 15615, 31999, 65535, 131071, 262143, 524287, 1048575, 2097151, 4194303, 8388607, 16777215, 33554431, 67108863, 134217727]
theorem impl_TreeOk.tab7 : rtab .any (opsOf Tryz.f77 7) = impl_TreeOk.T7 := by kernel_rfl
theorem impl_TreeOk.bits7 : waitsOk impl_TreeOk.T7.2 impl_TreeOk.B7 = true := by kernel_rfl
theorem impl_TreeOk.calls (k : Nat) (A0 : Option Addr) (c0 : Nat) (l0 : List (S57)) (r : Bool) (w : World) (hE : EnvW w) (hr0 : Kd.C k57 w A0 l0.length l0) (hc0 : l0.length ≤ c0) (h : impl_TreeOk.f k l0 = some r) :
 Calls Tryz.prog 77 #[.slice A0 l0.length c0] w fun e w' => e = .returned (.bool r) ∧ Below w.heap.size w w' := by
 have hu57 := Tryz.underlying57
 have HE := Aside0.mk hE
 clear hE
 have HR0 := Aside0.mk hr0
 have HC0 := Aside0.mk hc0
 clear hr0 hc0
 have HB := Aside0.mk (Below.refl w.heap.size w)
 have H : (if (l0.length : Int) > 500 then (some false) else (impl_TreeOk.l0 k l0 (([] : List (ByteArray × Int))) l0 (l0.length : Int) 0)) = some r := h
 clear h
 by_cases c2 : (l0.length : Int) > 500
 {
 rw [if_pos c2] at H
 have c2b0 : decide (500 < (l0.length : Int)) = true := decide_eq_true c2
 have c2b1 : decide (500 < l0.length) = true := decide_eq_true (by omega)
 clear c2
 obtain rfl := Option.some.inj H
 go_enter Tryz.func77, Tryz.ntmps77
 go_wp2
 go_ret
 exact ⟨eR_, bw_ HB⟩}
 {
 rw [if_neg c2] at H
 have c2b0 : decide (500 < (l0.length : Int)) = false := decide_eq_false c2
 have c2b1 : decide (500 < l0.length) = false := decide_eq_false (by omega)
 clear c2
 obtain ⟨y361, hy361⟩ : ∃ y_ : List (ByteArray × Int), y_ = (([] : List (ByteArray × Int))) := ⟨_, rfl⟩
 replace H : (impl_TreeOk.l0 k l0 y361 l0 (l0.length : Int) 0) = some r := rH_ hy361 H
 have Ny361 := Aside0.mk hy361
 clear hy361
 have H' := Aside0.mk H
 clear H
 go_enter Tryz.func77, Tryz.ntmps77
 go_wp2_with (first | ((with_reducible refine gate_dst (N := 13) rfl ?_); (try (refine gate_guard (by rfl) ?_; dsimp only)); refine map_new (kkStr Tryz.prog 9 Tryz.underlying9) ekI64 rfl (N := 13) rfl 99 rfl ?_; intro gm363 gg4 w3 hmp hb; rw [← Ny361.out] at hmp; have HM362 := Aside0.mk (hmp); have GMgm363 := Aside0.mk (ge_ gg4 (bw_ HB)); replace HB := Aside0.mk (below_step (bw_ HB) hb); clear hb hmp gg4))
 go_loopg [16] k (fun kq v16 w' => ∃ (x3_1 : List (ByteArray × Int)) (x16_1 : Int), v16 = .int .i64 x16_1 ∧ Aside0 (impl_TreeOk.l0 kq l0 x3_1 l0 (l0.length : Int) x16_1 = some r) ∧ Aside0 (kq ≤ k) ∧ Aside0 (MapAt (kkStr Tryz.prog 9 Tryz.underlying9) ekI64 w' gm363 x3_1) ∧ Aside0 (Below w.heap.size w w'))
 case atStart => exact ⟨(y361), (0), (by first | rfl | (simp; done) | (simp [*]; done)), H', ⟨Nat.le_refl _⟩, ⟨mp_ HM362⟩, ⟨bw_ HB⟩⟩
 case round =>
  clear H'
  try clear c2
  try clear c2b0
  try clear c2b1
  try clear p2
  obtain ⟨x3_1, x16_1, rfl, HA, HK1, HM_3, HB⟩ := hrel
  cases gk with
  | zero => exact absurd HA.out (by simp [impl_TreeOk.l0])
  | succ k1 =>
       have H := HA.out
       clear HA
       simp only [impl_TreeOk.l0] at H
       by_cases c5 : x16_1 < (l0.length : Int)
       {
       rw [if_pos c5] at H
       have c5b0 := decide_eq_true c5
       clear c5
       by_cases c6 : 0 ≤ x16_1
       {
       rw [if_pos c6] at H
       have c6b0 := decide_eq_true c6
       clear c6
       by_cases c7 : x16_1 < (l0.length : Int)
       {
       rw [if_pos c7] at H
       have c7b0 := decide_eq_true c7
       clear c7
       have HC8 := Aside0.mk H
       clear H
       have p364 : 0 ≤ (x16_1 : Int) := dA_
       have q364 : x16_1 < (l0.length : Int) := dA_
       obtain ⟨ad364, e364, hx364_0, hx364_1, hx364_2, hx364_3⟩ := at_T57 HR0.out x16_1 p364 q364
       cases e364
       replace hx364_0 := hX_ HB hx364_0
       replace hx364_1 := hX_ HB hx364_1
       replace hx364_2 := hX_ HB hx364_2
       replace hx364_3 := hX_ HB hx364_3
       replace p364 := eq_true p364
       replace q364 := eq_true q364
       go_upto_region 7 with (first | ((with_reducible refine gate_dst (N := 5) rfl ?_); (try (refine gate_guard (by rfl) ?_; dsimp only)); refine bE_ 5 #[.string (⟨#[]⟩ : ByteArray), .int .i64 0, .string (⟨#[]⟩ : ByteArray), .bool false] 57 ?_; intro gb365 hg w9 hbox hb; replace HM_3 := Aside0.mk (MapAt.below (mp_ HM_3) hb); have BK365 := Aside0.mk (hbox); have GW365 := Aside0.mk (ge_ hg (bw_ HB)); have GE365 := Aside0.mk (ge_ hg (bw_ HB)); replace HB := Aside0.mk (below_step (bw_ HB) hb); clear hb hbox hg; have hcz10_0 := cz_ BK365 0 (.string (⟨#[]⟩ : ByteArray)); have hcz10_1 := cz_ BK365 1 (.int .i64 0); have hcz10_2 := cz_ BK365 2 (.string (⟨#[]⟩ : ByteArray)); have hcz10_3 := cz_ BK365 3 (.bool false); have hfz10_0 := blk_frozen BK365.out 0; have hfz10_1 := blk_frozen BK365.out 1; have hfz10_2 := blk_frozen BK365.out 2; have hfz10_3 := blk_frozen BK365.out 3))
       (try simp only [Act.put, List.setIfInBounds_toArray, List.set_cons_zero, List.set_cons_succ])
       go_cut [48] (fun v48 wc => ∃ (kq : Nat) (x48_7 : Bool), v48 = .bool x48_7 ∧ Aside0 (impl_TreeOk.j1 kq l0 x3_1 l0 (l0.length : Int) x16_1 x48_7 ((rd_T57 l0 x16_1).f0) ((rd_T57 l0 x16_1).f1) ((rd_T57 l0 x16_1).f2) ((rd_T57 l0 x16_1).f3) = some r) ∧ Aside0 (kq ≤ k1) ∧ Aside0 (MapAt (kkStr Tryz.prog 9 Tryz.underlying9) ekI64 wc gm363 x3_1) ∧ Aside0 (wc.heap[gb365]? = some (.cells #[.string ((rd_T57 l0 x16_1).f0), .int .i64 ((rd_T57 l0 x16_1).f1), .string ((rd_T57 l0 x16_1).f2), .bool ((rd_T57 l0 x16_1).f3)] 57 (0, 0))) ∧ Aside0 (Below w.heap.size w wc))
       case first =>
        have H := HC8.out
        clear HC8
        replace H := Option.bind_eq_some_iff.mp H
        obtain ⟨t366, A110, H⟩ := H
        have A11 := Aside0.mk A110
        clear A110
        by_cases c12 : t366 = true
        {
        subst c12
        rw [if_pos rfl] at H
        by_cases c13 : x16_1 > 0
        {
        rw [if_pos c13] at H
        have c13b0 : decide (0 < x16_1) = true := decide_eq_true c13
        clear c13
        (first | rw [c13b0] | (simp only [i64_w, i32_w]; rw [c13b0]) | skip)
        obtain ⟨ji14, hji14⟩ : ∃ j_ : Int, (wrap64 (x16_1 - 1)) = j_ := ⟨_, rfl⟩
        replace H : (if 0 ≤ (ji14) then (if (ji14) < (l0.length : Int) then (if ((Op.bytesLess (((rd_T57 l0 (ji14)).f0).toList) (((rd_T57 l0 x16_1).f0).toList)) = true) then (if (rd_T57 l0 x16_1).f3 = true then (impl_TreeOk.j1 k1 l0 x3_1 l0 (l0.length : Int) x16_1 (((rd_T57 l0 x16_1).f1) != 2) ((rd_T57 l0 x16_1).f0) ((rd_T57 l0 x16_1).f1) ((rd_T57 l0 x16_1).f2) ((rd_T57 l0 x16_1).f3)) else (impl_TreeOk.j1 k1 l0 x3_1 l0 (l0.length : Int) x16_1 false ((rd_T57 l0 x16_1).f0) ((rd_T57 l0 x16_1).f1) ((rd_T57 l0 x16_1).f2) ((rd_T57 l0 x16_1).f3))) else (impl_TreeOk.j1 k1 l0 x3_1 l0 (l0.length : Int) x16_1 true ((rd_T57 l0 x16_1).f0) ((rd_T57 l0 x16_1).f1) ((rd_T57 l0 x16_1).f2) ((rd_T57 l0 x16_1).f3))) else (none)) else (none)) = some r := by first | (rw [hji14] at H; exact H) | (simp only [hji14] at H ⊢; exact H)
        (try rw [hji14] at A11)
        have hji14w : (IntKind.i64.wrap (x16_1 - 1)) = ji14 := (i64_w _).trans hji14
        by_cases c15 : 0 ≤ (ji14)
        {
        rw [if_pos c15] at H
        have c15b0 := decide_eq_true c15
        clear c15
        by_cases c16 : (ji14) < (l0.length : Int)
        {
        rw [if_pos c16] at H
        have c16b0 := decide_eq_true c16
        clear c16
        by_cases c17 : ((Op.bytesLess (((rd_T57 l0 (ji14)).f0).toList) (((rd_T57 l0 x16_1).f0).toList)) = true)
        {
        rw [if_pos c17] at H
        have c17b0 : (Op.bytesLess (((rd_T57 l0 (ji14)).f0).toList) (((rd_T57 l0 x16_1).f0).toList)) = true := c17
        clear c17
        obtain ⟨bq18, hbq18⟩ : ∃ b_ : Bool, b_ = ((rd_T57 l0 x16_1).f3) := ⟨_, rfl⟩
        replace H : (if bq18 = true then (impl_TreeOk.j1 k1 l0 x3_1 l0 (l0.length : Int) x16_1 (((rd_T57 l0 x16_1).f1) != 2) ((rd_T57 l0 x16_1).f0) ((rd_T57 l0 x16_1).f1) ((rd_T57 l0 x16_1).f2) bq18) else (impl_TreeOk.j1 k1 l0 x3_1 l0 (l0.length : Int) x16_1 false ((rd_T57 l0 x16_1).f0) ((rd_T57 l0 x16_1).f1) ((rd_T57 l0 x16_1).f2) bq18)) = some r := by rw [← hbq18] at H; exact H
        have Nbq18 := Aside0.mk hbq18
        clear hbq18
        by_cases c19 : bq18 = true
        {
        subst c19
        rw [if_pos rfl] at H
        have H' := Aside0.mk H
        clear H
        try go_wp2
        have n0_ : Aside0 (((((w9.setCell ⟨gb365, 0, none⟩ (.string ((rd_T57 l0 x16_1).f0))).setCell ⟨gb365, 1, none⟩ (.int .i64 ((rd_T57 l0 x16_1).f1))).setCell ⟨gb365, 2, none⟩ (.string ((rd_T57 l0 x16_1).f2))).setCell ⟨gb365, 3, none⟩ (.bool (true))).heap[gb365]? = some (.cells #[.string ((rd_T57 l0 x16_1).f0), .int .i64 ((rd_T57 l0 x16_1).f1), .string ((rd_T57 l0 x16_1).f2), .bool true] 57 (0, 0))) := ⟨by (with_reducible repeat (first | refine blk_drewN ?_ _ | refine blk_drew ?_ | refine blk_alloc ?_ _)); refine blk_put (cs := #[.string ((rd_T57 l0 x16_1).f0), .int .i64 ((rd_T57 l0 x16_1).f1), .string ((rd_T57 l0 x16_1).f2), .bool false]) ?_ 3 _ rfl; (with_reducible repeat (first | refine blk_drewN ?_ _ | refine blk_drew ?_ | refine blk_alloc ?_ _)); refine blk_put (cs := #[.string ((rd_T57 l0 x16_1).f0), .int .i64 ((rd_T57 l0 x16_1).f1), .string (⟨#[]⟩ : ByteArray), .bool false]) ?_ 2 _ rfl; (with_reducible repeat (first | refine blk_drewN ?_ _ | refine blk_drew ?_ | refine blk_alloc ?_ _)); refine blk_put (cs := #[.string ((rd_T57 l0 x16_1).f0), .int .i64 0, .string (⟨#[]⟩ : ByteArray), .bool false]) ?_ 1 _ rfl; (with_reducible repeat (first | refine blk_drewN ?_ _ | refine blk_drew ?_ | refine blk_alloc ?_ _)); refine blk_put (cs := #[.string (⟨#[]⟩ : ByteArray), .int .i64 0, .string (⟨#[]⟩ : ByteArray), .bool false]) ?_ 0 _ rfl; (with_reducible repeat (first | refine blk_drewN ?_ _ | refine blk_drew ?_ | refine blk_alloc ?_ _)); exact BK365.out⟩
        have n1_ : Aside0 (MapAt (kkStr Tryz.prog 9 Tryz.underlying9) ekI64 ((((w9.setCell ⟨gb365, 0, none⟩ (.string ((rd_T57 l0 x16_1).f0))).setCell ⟨gb365, 1, none⟩ (.int .i64 ((rd_T57 l0 x16_1).f1))).setCell ⟨gb365, 2, none⟩ (.string ((rd_T57 l0 x16_1).f2))).setCell ⟨gb365, 3, none⟩ (.bool (true))) gm363 x3_1) := ⟨mp_ HM_3⟩
        have n2_ : Aside0 (Below w.heap.size w ((((w9.setCell ⟨gb365, 0, none⟩ (.string ((rd_T57 l0 x16_1).f0))).setCell ⟨gb365, 1, none⟩ (.int .i64 ((rd_T57 l0 x16_1).f1))).setCell ⟨gb365, 2, none⟩ (.string ((rd_T57 l0 x16_1).f2))).setCell ⟨gb365, 3, none⟩ (.bool (true)))) := ⟨bw1_ HB GE365⟩
        (try rw [← Nbq18.out])
        (try clear BK365)
        (try clear HM_3)
        (try clear HB)
        generalize ((((w9.setCell ⟨gb365, 0, none⟩ (.string ((rd_T57 l0 x16_1).f0))).setCell ⟨gb365, 1, none⟩ (.int .i64 ((rd_T57 l0 x16_1).f1))).setCell ⟨gb365, 2, none⟩ (.string ((rd_T57 l0 x16_1).f2))).setCell ⟨gb365, 3, none⟩ (.bool (true))) = w20 at n0_ n1_ n2_ ⊢
        have BK365 := n0_
        have HM_3 := n1_
        have HB := n2_
        clear n0_ n1_ n2_
        replace BK365 := Aside0.mk (blk_drew BK365.out)
        replace HM_3 := Aside0.mk (MapAt.drew HM_3.out)
        replace HB := Aside0.mk (below_drew1 HB.out)
        have p367 : 0 ≤ ((ji14) : Int) := dA_
        have q367 : (ji14) < (l0.length : Int) := dA_
        obtain ⟨ad367, e367, hx367_0, hx367_1, hx367_2, hx367_3⟩ := at_T57 HR0.out (ji14) p367 q367
        have hw367_3 := hx367_3
        (try rw [← Nbq18.out] at hw367_3)
        have hw367_2 := hx367_2
        (try rw [← Nbq18.out] at hw367_2)
        have hw367_1 := hx367_1
        (try rw [← Nbq18.out] at hw367_1)
        have hw367_0 := hx367_0
        (try rw [← Nbq18.out] at hw367_0)
        (try rw [← Nbq18.out] at hx367_3)
        obtain rfl : ad364 = ad367 := (by injection e367)
        replace hx367_0 := hX_ HB hx367_0
        replace hx367_1 := hX_ HB hx367_1
        replace hx367_2 := hX_ HB hx367_2
        replace hx367_3 := hX_ HB hx367_3
        replace p367 := eq_true p367
        replace q367 := eq_true q367
        refine start_ (n := 28) (S := fun w' => w'.cell? ⟨gb365, 0, none⟩ = some (.string ((rd_T57 l0 x16_1).f0)) ∧ w'.cell? ⟨gb365, 1, none⟩ = some (.int .i64 ((rd_T57 l0 x16_1).f1)) ∧ w'.cell? ⟨gb365, 2, none⟩ = some (.string ((rd_T57 l0 x16_1).f2)) ∧ w'.cell? ⟨gb365, 3, none⟩ = some (.bool true) ∧ w'.cell? (ad364.add (((ji14)).toNat * 4)) = some (.string ((rd_T57 l0 (ji14)).f0)) ∧ w'.cell? ⟨(ad364.add (((ji14)).toNat * 4)).block, (ad364.add (((ji14)).toNat * 4)).off + 1, none⟩ = some (.int .i64 ((rd_T57 l0 (ji14)).f1)) ∧ w'.cell? ⟨(ad364.add (((ji14)).toNat * 4)).block, (ad364.add (((ji14)).toNat * 4)).off + 2, none⟩ = some (.string ((rd_T57 l0 (ji14)).f2)) ∧ w'.cell? ⟨(ad364.add (((ji14)).toNat * 4)).block, (ad364.add (((ji14)).toNat * 4)).off + 3, none⟩ = some (.bool ((rd_T57 l0 (ji14)).f3))) (ds := []) (bs_ 28 0) (by kernel_rfl) rfl (by kernel_rfl) ⟨(blk_cell BK365.out 0).trans rfl, (blk_cell BK365.out 1).trans rfl, (blk_cell BK365.out 2).trans rfl, (blk_cell BK365.out 3).trans rfl, ((HB.out.cell (World.block_lt_of_cell? w _ hw367_0)).trans hw367_0), ((HB.out.cell (World.block_lt_of_cell? w _ hw367_1)).trans hw367_1), ((HB.out.cell (World.block_lt_of_cell? w _ hw367_2)).trans hw367_2), ((HB.out.cell (World.block_lt_of_cell? w _ hw367_3)).trans hw367_3)⟩ (fun hHeld => ?_); refine with_tabW impl_TreeOk.tab7 impl_TreeOk.bits7 (fun HT_ HW_ => ?_)
        generalize w20.drew = w21 at BK365 HM_3 HB hx367_0 hx367_1 hx367_2 hx367_3 hHeld ⊢
        refine pS_ 0 ?_
        refine t8_ 1 hHeld ?_
        refine oS_ 2 (fun K hK => ?_)
        refine gS_ Tryz.func98 #[.string ((rd_T57 l0 x16_1).f0)] ?_
        with_reducible refine (impl_pathOk.calls k1 ((rd_T57 l0 x16_1).f0) true _ ?side1 A11.out).mono ?_
        (case side1 => refine EnvW.below HE.out ?_; repeat (first | (with_reducible first | exact HB.out | apply below_alloc | apply pw_below_drewN | apply below_drew1 | refine below_set ?_ GE365.out) | exact HB.out))
        rintro e w22 ⟨rfl, hb⟩
        refine ⟨_, rfl, ?_⟩
        replace HM_3 := Aside0.mk (MapAt.below (mp_ HM_3) hb)
        replace BK365 := Aside0.mk (blk_below (bk_ BK365) hb)
        replace HB := Aside0.mk (below_step (bw1_ HB GE365) hb)
        (try clear hb)
        (try clear hb2)
        (try clear hk)
        (try clear hi)
        refine hK.out _ _ ⟨(blk_cell BK365.out 0).trans rfl, (blk_cell BK365.out 1).trans rfl, (blk_cell BK365.out 2).trans rfl, (blk_cell BK365.out 3).trans rfl, ((HB.out.cell (World.block_lt_of_cell? w _ hw367_0)).trans hw367_0), ((HB.out.cell (World.block_lt_of_cell? w _ hw367_1)).trans hw367_1), ((HB.out.cell (World.block_lt_of_cell? w _ hw367_2)).trans hw367_2), ((HB.out.cell (World.block_lt_of_cell? w _ hw367_3)).trans hw367_3)⟩ (fun hHeld => ?_)
        clear hK K
        refine nS_ 23 ?_
        refine pS_ 3 ?_
        refine pS_ 4 ?_
        refine pS_ 5 ?_
        refine pS_ 6 ?_
        refine pS_ 7 ?_
        refine pS_ 8 ?_
        refine pS_ 10 ?_
        refine pS_ 11 ?_
        refine pS_ 12 ?_
        refine pS_ 13 ?_
        refine pS_ 14 ?_
        refine t8_ 9 hHeld ?_
        refine t8_ 15 hHeld ?_
        refine pS_ 16 ?_
        refine pS_ 17 ?_
        refine pS_ 18 ?_
        refine pS_ 19 ?_
        refine pS_ 20 ?_
        refine t8_ 21 hHeld ?_
        refine pS_ 22 ?_
        refine pS_ 23 ?_
        refine t8_ 24 hHeld ?_
        refine pS_ 25 ?_
        refine pS_ 26 ?_
        refine pS_ 27 ?_
        refine done_ (done_of HT_.out (by kernel_rfl)) ?_
        try go_wp2
        go_meet
        case rel => (try rw [← Nbq18.out]); exact ⟨_, ((((rd_T57 l0 x16_1).f1) != 2)), (by first | rfl | (simp; done) | (simp [*]; done)), H', ⟨by have := HK1.out; first | omega | exact Nat.le_refl _⟩, ⟨mp_ HM_3⟩, ⟨bk_ BK365⟩, ⟨bw1_ HB GE365⟩⟩}
        {
        replace c19 := Bool.eq_false_iff.mpr c19
        subst c19
        rw [if_neg (show ¬ (false = true) by decide)] at H
        have H' := Aside0.mk H
        clear H
        try go_wp2
        have n0_ : Aside0 (((((w9.setCell ⟨gb365, 0, none⟩ (.string ((rd_T57 l0 x16_1).f0))).setCell ⟨gb365, 1, none⟩ (.int .i64 ((rd_T57 l0 x16_1).f1))).setCell ⟨gb365, 2, none⟩ (.string ((rd_T57 l0 x16_1).f2))).setCell ⟨gb365, 3, none⟩ (.bool (false))).heap[gb365]? = some (.cells #[.string ((rd_T57 l0 x16_1).f0), .int .i64 ((rd_T57 l0 x16_1).f1), .string ((rd_T57 l0 x16_1).f2), .bool false] 57 (0, 0))) := ⟨by (with_reducible repeat (first | refine blk_drewN ?_ _ | refine blk_drew ?_ | refine blk_alloc ?_ _)); refine blk_put (cs := #[.string ((rd_T57 l0 x16_1).f0), .int .i64 ((rd_T57 l0 x16_1).f1), .string ((rd_T57 l0 x16_1).f2), .bool false]) ?_ 3 _ rfl; (with_reducible repeat (first | refine blk_drewN ?_ _ | refine blk_drew ?_ | refine blk_alloc ?_ _)); refine blk_put (cs := #[.string ((rd_T57 l0 x16_1).f0), .int .i64 ((rd_T57 l0 x16_1).f1), .string (⟨#[]⟩ : ByteArray), .bool false]) ?_ 2 _ rfl; (with_reducible repeat (first | refine blk_drewN ?_ _ | refine blk_drew ?_ | refine blk_alloc ?_ _)); refine blk_put (cs := #[.string ((rd_T57 l0 x16_1).f0), .int .i64 0, .string (⟨#[]⟩ : ByteArray), .bool false]) ?_ 1 _ rfl; (with_reducible repeat (first | refine blk_drewN ?_ _ | refine blk_drew ?_ | refine blk_alloc ?_ _)); refine blk_put (cs := #[.string (⟨#[]⟩ : ByteArray), .int .i64 0, .string (⟨#[]⟩ : ByteArray), .bool false]) ?_ 0 _ rfl; (with_reducible repeat (first | refine blk_drewN ?_ _ | refine blk_drew ?_ | refine blk_alloc ?_ _)); exact BK365.out⟩
        have n1_ : Aside0 (MapAt (kkStr Tryz.prog 9 Tryz.underlying9) ekI64 ((((w9.setCell ⟨gb365, 0, none⟩ (.string ((rd_T57 l0 x16_1).f0))).setCell ⟨gb365, 1, none⟩ (.int .i64 ((rd_T57 l0 x16_1).f1))).setCell ⟨gb365, 2, none⟩ (.string ((rd_T57 l0 x16_1).f2))).setCell ⟨gb365, 3, none⟩ (.bool (false))) gm363 x3_1) := ⟨mp_ HM_3⟩
        have n2_ : Aside0 (Below w.heap.size w ((((w9.setCell ⟨gb365, 0, none⟩ (.string ((rd_T57 l0 x16_1).f0))).setCell ⟨gb365, 1, none⟩ (.int .i64 ((rd_T57 l0 x16_1).f1))).setCell ⟨gb365, 2, none⟩ (.string ((rd_T57 l0 x16_1).f2))).setCell ⟨gb365, 3, none⟩ (.bool (false)))) := ⟨bw1_ HB GE365⟩
        (try rw [← Nbq18.out])
        (try clear BK365)
        (try clear HM_3)
        (try clear HB)
        generalize ((((w9.setCell ⟨gb365, 0, none⟩ (.string ((rd_T57 l0 x16_1).f0))).setCell ⟨gb365, 1, none⟩ (.int .i64 ((rd_T57 l0 x16_1).f1))).setCell ⟨gb365, 2, none⟩ (.string ((rd_T57 l0 x16_1).f2))).setCell ⟨gb365, 3, none⟩ (.bool (false))) = w23 at n0_ n1_ n2_ ⊢
        have BK365 := n0_
        have HM_3 := n1_
        have HB := n2_
        clear n0_ n1_ n2_
        replace BK365 := Aside0.mk (blk_drew BK365.out)
        replace HM_3 := Aside0.mk (MapAt.drew HM_3.out)
        replace HB := Aside0.mk (below_drew1 HB.out)
        have p367 : 0 ≤ ((ji14) : Int) := dA_
        have q367 : (ji14) < (l0.length : Int) := dA_
        obtain ⟨ad367, e367, hx367_0, hx367_1, hx367_2, hx367_3⟩ := at_T57 HR0.out (ji14) p367 q367
        have hw367_3 := hx367_3
        (try rw [← Nbq18.out] at hw367_3)
        have hw367_2 := hx367_2
        (try rw [← Nbq18.out] at hw367_2)
        have hw367_1 := hx367_1
        (try rw [← Nbq18.out] at hw367_1)
        have hw367_0 := hx367_0
        (try rw [← Nbq18.out] at hw367_0)
        (try rw [← Nbq18.out] at hx367_3)
        obtain rfl : ad364 = ad367 := (by injection e367)
        replace hx367_0 := hX_ HB hx367_0
        replace hx367_1 := hX_ HB hx367_1
        replace hx367_2 := hX_ HB hx367_2
        replace hx367_3 := hX_ HB hx367_3
        replace p367 := eq_true p367
        replace q367 := eq_true q367
        refine start_ (n := 28) (S := fun w' => w'.cell? ⟨gb365, 0, none⟩ = some (.string ((rd_T57 l0 x16_1).f0)) ∧ w'.cell? ⟨gb365, 1, none⟩ = some (.int .i64 ((rd_T57 l0 x16_1).f1)) ∧ w'.cell? ⟨gb365, 2, none⟩ = some (.string ((rd_T57 l0 x16_1).f2)) ∧ w'.cell? ⟨gb365, 3, none⟩ = some (.bool false) ∧ w'.cell? (ad364.add (((ji14)).toNat * 4)) = some (.string ((rd_T57 l0 (ji14)).f0)) ∧ w'.cell? ⟨(ad364.add (((ji14)).toNat * 4)).block, (ad364.add (((ji14)).toNat * 4)).off + 1, none⟩ = some (.int .i64 ((rd_T57 l0 (ji14)).f1)) ∧ w'.cell? ⟨(ad364.add (((ji14)).toNat * 4)).block, (ad364.add (((ji14)).toNat * 4)).off + 2, none⟩ = some (.string ((rd_T57 l0 (ji14)).f2)) ∧ w'.cell? ⟨(ad364.add (((ji14)).toNat * 4)).block, (ad364.add (((ji14)).toNat * 4)).off + 3, none⟩ = some (.bool ((rd_T57 l0 (ji14)).f3))) (ds := []) (bs_ 28 0) (by kernel_rfl) rfl (by kernel_rfl) ⟨(blk_cell BK365.out 0).trans rfl, (blk_cell BK365.out 1).trans rfl, (blk_cell BK365.out 2).trans rfl, (blk_cell BK365.out 3).trans rfl, ((HB.out.cell (World.block_lt_of_cell? w _ hw367_0)).trans hw367_0), ((HB.out.cell (World.block_lt_of_cell? w _ hw367_1)).trans hw367_1), ((HB.out.cell (World.block_lt_of_cell? w _ hw367_2)).trans hw367_2), ((HB.out.cell (World.block_lt_of_cell? w _ hw367_3)).trans hw367_3)⟩ (fun hHeld => ?_); refine with_tabW impl_TreeOk.tab7 impl_TreeOk.bits7 (fun HT_ HW_ => ?_)
        generalize w23.drew = w24 at BK365 HM_3 HB hx367_0 hx367_1 hx367_2 hx367_3 hHeld ⊢
        refine pS_ 0 ?_
        refine t8_ 1 hHeld ?_
        refine oS_ 2 (fun K hK => ?_)
        refine gS_ Tryz.func98 #[.string ((rd_T57 l0 x16_1).f0)] ?_
        with_reducible refine (impl_pathOk.calls k1 ((rd_T57 l0 x16_1).f0) true _ ?side1 A11.out).mono ?_
        (case side1 => refine EnvW.below HE.out ?_; repeat (first | (with_reducible first | exact HB.out | apply below_alloc | apply pw_below_drewN | apply below_drew1 | refine below_set ?_ GE365.out) | exact HB.out))
        rintro e w25 ⟨rfl, hb⟩
        refine ⟨_, rfl, ?_⟩
        replace HM_3 := Aside0.mk (MapAt.below (mp_ HM_3) hb)
        replace BK365 := Aside0.mk (blk_below (bk_ BK365) hb)
        replace HB := Aside0.mk (below_step (bw1_ HB GE365) hb)
        (try clear hb)
        (try clear hb2)
        (try clear hk)
        (try clear hi)
        refine hK.out _ _ ⟨(blk_cell BK365.out 0).trans rfl, (blk_cell BK365.out 1).trans rfl, (blk_cell BK365.out 2).trans rfl, (blk_cell BK365.out 3).trans rfl, ((HB.out.cell (World.block_lt_of_cell? w _ hw367_0)).trans hw367_0), ((HB.out.cell (World.block_lt_of_cell? w _ hw367_1)).trans hw367_1), ((HB.out.cell (World.block_lt_of_cell? w _ hw367_2)).trans hw367_2), ((HB.out.cell (World.block_lt_of_cell? w _ hw367_3)).trans hw367_3)⟩ (fun hHeld => ?_)
        clear hK K
        refine nS_ 23 ?_
        refine pS_ 3 ?_
        refine pS_ 4 ?_
        refine pS_ 5 ?_
        refine pS_ 6 ?_
        refine pS_ 7 ?_
        refine pS_ 8 ?_
        refine pS_ 10 ?_
        refine pS_ 11 ?_
        refine pS_ 12 ?_
        refine pS_ 13 ?_
        refine pS_ 14 ?_
        refine t8_ 9 hHeld ?_
        refine t8_ 15 hHeld ?_
        refine pS_ 16 ?_
        refine pS_ 17 ?_
        refine pS_ 18 ?_
        refine pS_ 19 ?_
        refine pS_ 20 ?_
        refine t8_ 21 hHeld ?_
        refine pS_ 22 ?_
        refine pU_ 23 ?_
        refine pU_ 24 ?_
        refine pU_ 25 ?_
        refine pS_ 26 ?_
        refine pS_ 27 ?_
        refine done_ (done_of HT_.out (by kernel_rfl)) ?_
        try go_wp2
        go_meet
        case rel => (try rw [← Nbq18.out]); exact ⟨_, (false), (by first | rfl | (simp; done) | (simp [*]; done)), H', ⟨by have := HK1.out; first | omega | exact Nat.le_refl _⟩, ⟨mp_ HM_3⟩, ⟨bk_ BK365⟩, ⟨bw1_ HB GE365⟩⟩}}
        {
        rw [if_neg c17] at H
        have c17b0 : (Op.bytesLess (((rd_T57 l0 (ji14)).f0).toList) (((rd_T57 l0 x16_1).f0).toList)) = false := by simpa using c17
        clear c17
        have H' := Aside0.mk H
        clear H
        try go_wp2
        have n0_ : Aside0 (((((w9.setCell ⟨gb365, 0, none⟩ (.string ((rd_T57 l0 x16_1).f0))).setCell ⟨gb365, 1, none⟩ (.int .i64 ((rd_T57 l0 x16_1).f1))).setCell ⟨gb365, 2, none⟩ (.string ((rd_T57 l0 x16_1).f2))).setCell ⟨gb365, 3, none⟩ (.bool ((rd_T57 l0 x16_1).f3))).heap[gb365]? = some (.cells #[.string ((rd_T57 l0 x16_1).f0), .int .i64 ((rd_T57 l0 x16_1).f1), .string ((rd_T57 l0 x16_1).f2), .bool ((rd_T57 l0 x16_1).f3)] 57 (0, 0))) := ⟨by (with_reducible repeat (first | refine blk_drewN ?_ _ | refine blk_drew ?_ | refine blk_alloc ?_ _)); refine blk_put (cs := #[.string ((rd_T57 l0 x16_1).f0), .int .i64 ((rd_T57 l0 x16_1).f1), .string ((rd_T57 l0 x16_1).f2), .bool false]) ?_ 3 _ rfl; (with_reducible repeat (first | refine blk_drewN ?_ _ | refine blk_drew ?_ | refine blk_alloc ?_ _)); refine blk_put (cs := #[.string ((rd_T57 l0 x16_1).f0), .int .i64 ((rd_T57 l0 x16_1).f1), .string (⟨#[]⟩ : ByteArray), .bool false]) ?_ 2 _ rfl; (with_reducible repeat (first | refine blk_drewN ?_ _ | refine blk_drew ?_ | refine blk_alloc ?_ _)); refine blk_put (cs := #[.string ((rd_T57 l0 x16_1).f0), .int .i64 0, .string (⟨#[]⟩ : ByteArray), .bool false]) ?_ 1 _ rfl; (with_reducible repeat (first | refine blk_drewN ?_ _ | refine blk_drew ?_ | refine blk_alloc ?_ _)); refine blk_put (cs := #[.string (⟨#[]⟩ : ByteArray), .int .i64 0, .string (⟨#[]⟩ : ByteArray), .bool false]) ?_ 0 _ rfl; (with_reducible repeat (first | refine blk_drewN ?_ _ | refine blk_drew ?_ | refine blk_alloc ?_ _)); exact BK365.out⟩
        have n1_ : Aside0 (MapAt (kkStr Tryz.prog 9 Tryz.underlying9) ekI64 ((((w9.setCell ⟨gb365, 0, none⟩ (.string ((rd_T57 l0 x16_1).f0))).setCell ⟨gb365, 1, none⟩ (.int .i64 ((rd_T57 l0 x16_1).f1))).setCell ⟨gb365, 2, none⟩ (.string ((rd_T57 l0 x16_1).f2))).setCell ⟨gb365, 3, none⟩ (.bool ((rd_T57 l0 x16_1).f3))) gm363 x3_1) := ⟨mp_ HM_3⟩
        have n2_ : Aside0 (Below w.heap.size w ((((w9.setCell ⟨gb365, 0, none⟩ (.string ((rd_T57 l0 x16_1).f0))).setCell ⟨gb365, 1, none⟩ (.int .i64 ((rd_T57 l0 x16_1).f1))).setCell ⟨gb365, 2, none⟩ (.string ((rd_T57 l0 x16_1).f2))).setCell ⟨gb365, 3, none⟩ (.bool ((rd_T57 l0 x16_1).f3)))) := ⟨bw1_ HB GE365⟩
        (try clear BK365)
        (try clear HM_3)
        (try clear HB)
        generalize ((((w9.setCell ⟨gb365, 0, none⟩ (.string ((rd_T57 l0 x16_1).f0))).setCell ⟨gb365, 1, none⟩ (.int .i64 ((rd_T57 l0 x16_1).f1))).setCell ⟨gb365, 2, none⟩ (.string ((rd_T57 l0 x16_1).f2))).setCell ⟨gb365, 3, none⟩ (.bool ((rd_T57 l0 x16_1).f3))) = w26 at n0_ n1_ n2_ ⊢
        have BK365 := n0_
        have HM_3 := n1_
        have HB := n2_
        clear n0_ n1_ n2_
        replace BK365 := Aside0.mk (blk_drew BK365.out)
        replace HM_3 := Aside0.mk (MapAt.drew HM_3.out)
        replace HB := Aside0.mk (below_drew1 HB.out)
        have p367 : 0 ≤ ((ji14) : Int) := dA_
        have q367 : (ji14) < (l0.length : Int) := dA_
        obtain ⟨ad367, e367, hx367_0, hx367_1, hx367_2, hx367_3⟩ := at_T57 HR0.out (ji14) p367 q367
        have hw367_3 := hx367_3
        have hw367_2 := hx367_2
        have hw367_1 := hx367_1
        have hw367_0 := hx367_0
        obtain rfl : ad364 = ad367 := (by injection e367)
        replace hx367_0 := hX_ HB hx367_0
        replace hx367_1 := hX_ HB hx367_1
        replace hx367_2 := hX_ HB hx367_2
        replace hx367_3 := hX_ HB hx367_3
        replace p367 := eq_true p367
        replace q367 := eq_true q367
        refine start_ (n := 28) (S := fun w' => w'.cell? ⟨gb365, 0, none⟩ = some (.string ((rd_T57 l0 x16_1).f0)) ∧ w'.cell? ⟨gb365, 1, none⟩ = some (.int .i64 ((rd_T57 l0 x16_1).f1)) ∧ w'.cell? ⟨gb365, 2, none⟩ = some (.string ((rd_T57 l0 x16_1).f2)) ∧ w'.cell? ⟨gb365, 3, none⟩ = some (.bool ((rd_T57 l0 x16_1).f3)) ∧ w'.cell? (ad364.add (((ji14)).toNat * 4)) = some (.string ((rd_T57 l0 (ji14)).f0)) ∧ w'.cell? ⟨(ad364.add (((ji14)).toNat * 4)).block, (ad364.add (((ji14)).toNat * 4)).off + 1, none⟩ = some (.int .i64 ((rd_T57 l0 (ji14)).f1)) ∧ w'.cell? ⟨(ad364.add (((ji14)).toNat * 4)).block, (ad364.add (((ji14)).toNat * 4)).off + 2, none⟩ = some (.string ((rd_T57 l0 (ji14)).f2)) ∧ w'.cell? ⟨(ad364.add (((ji14)).toNat * 4)).block, (ad364.add (((ji14)).toNat * 4)).off + 3, none⟩ = some (.bool ((rd_T57 l0 (ji14)).f3))) (ds := []) (bs_ 28 0) (by kernel_rfl) rfl (by kernel_rfl) ⟨(blk_cell BK365.out 0).trans rfl, (blk_cell BK365.out 1).trans rfl, (blk_cell BK365.out 2).trans rfl, (blk_cell BK365.out 3).trans rfl, ((HB.out.cell (World.block_lt_of_cell? w _ hw367_0)).trans hw367_0), ((HB.out.cell (World.block_lt_of_cell? w _ hw367_1)).trans hw367_1), ((HB.out.cell (World.block_lt_of_cell? w _ hw367_2)).trans hw367_2), ((HB.out.cell (World.block_lt_of_cell? w _ hw367_3)).trans hw367_3)⟩ (fun hHeld => ?_); refine with_tabW impl_TreeOk.tab7 impl_TreeOk.bits7 (fun HT_ HW_ => ?_)
        generalize w26.drew = w27 at BK365 HM_3 HB hx367_0 hx367_1 hx367_2 hx367_3 hHeld ⊢
        refine pS_ 0 ?_
        refine t8_ 1 hHeld ?_
        refine oS_ 2 (fun K hK => ?_)
        refine gS_ Tryz.func98 #[.string ((rd_T57 l0 x16_1).f0)] ?_
        with_reducible refine (impl_pathOk.calls k1 ((rd_T57 l0 x16_1).f0) true _ ?side1 A11.out).mono ?_
        (case side1 => refine EnvW.below HE.out ?_; repeat (first | (with_reducible first | exact HB.out | apply below_alloc | apply pw_below_drewN | apply below_drew1 | refine below_set ?_ GE365.out) | exact HB.out))
        rintro e w28 ⟨rfl, hb⟩
        refine ⟨_, rfl, ?_⟩
        replace HM_3 := Aside0.mk (MapAt.below (mp_ HM_3) hb)
        replace BK365 := Aside0.mk (blk_below (bk_ BK365) hb)
        replace HB := Aside0.mk (below_step (bw1_ HB GE365) hb)
        (try clear hb)
        (try clear hb2)
        (try clear hk)
        (try clear hi)
        refine hK.out _ _ ⟨(blk_cell BK365.out 0).trans rfl, (blk_cell BK365.out 1).trans rfl, (blk_cell BK365.out 2).trans rfl, (blk_cell BK365.out 3).trans rfl, ((HB.out.cell (World.block_lt_of_cell? w _ hw367_0)).trans hw367_0), ((HB.out.cell (World.block_lt_of_cell? w _ hw367_1)).trans hw367_1), ((HB.out.cell (World.block_lt_of_cell? w _ hw367_2)).trans hw367_2), ((HB.out.cell (World.block_lt_of_cell? w _ hw367_3)).trans hw367_3)⟩ (fun hHeld => ?_)
        clear hK K
        refine nS_ 23 ?_
        refine pS_ 3 ?_
        refine pS_ 4 ?_
        refine pS_ 5 ?_
        refine pS_ 6 ?_
        refine pS_ 7 ?_
        refine pS_ 8 ?_
        refine pS_ 10 ?_
        refine pS_ 11 ?_
        refine pS_ 12 ?_
        refine pS_ 13 ?_
        refine pS_ 14 ?_
        refine t8_ 9 hHeld ?_
        refine t8_ 15 hHeld ?_
        refine pS_ 16 ?_
        refine pS_ 17 ?_
        refine pS_ 18 ?_
        refine pS_ 19 ?_
        refine pU_ 20 ?_
        refine pU_ 21 ?_
        refine pU_ 22 ?_
        refine pU_ 23 ?_
        refine pU_ 24 ?_
        refine pU_ 25 ?_
        refine pU_ 26 ?_
        refine pS_ 27 ?_
        refine done_ (done_of HT_.out (by kernel_rfl)) ?_
        try go_wp2
        go_meet
        case rel => exact ⟨_, (true), (by first | rfl | (simp; done) | (simp [*]; done)), H', ⟨by have := HK1.out; first | omega | exact Nat.le_refl _⟩, ⟨mp_ HM_3⟩, ⟨bk_ BK365⟩, ⟨bw1_ HB GE365⟩⟩}}
        {
        rw [if_neg c16] at H
        exact absurd H (by simp)}}
        {
        rw [if_neg c15] at H
        exact absurd H (by simp)}}
        {
        rw [if_neg c13] at H
        have c13b0 : decide (0 < x16_1) = false := decide_eq_false c13
        clear c13
        (first | rw [c13b0] | (simp only [i64_w, i32_w]; rw [c13b0]) | skip)
        obtain ⟨bq29, hbq29⟩ : ∃ b_ : Bool, b_ = ((rd_T57 l0 x16_1).f3) := ⟨_, rfl⟩
        replace H : (if bq29 = true then (impl_TreeOk.j1 k1 l0 x3_1 l0 (l0.length : Int) x16_1 (((rd_T57 l0 x16_1).f1) != 2) ((rd_T57 l0 x16_1).f0) ((rd_T57 l0 x16_1).f1) ((rd_T57 l0 x16_1).f2) bq29) else (impl_TreeOk.j1 k1 l0 x3_1 l0 (l0.length : Int) x16_1 false ((rd_T57 l0 x16_1).f0) ((rd_T57 l0 x16_1).f1) ((rd_T57 l0 x16_1).f2) bq29)) = some r := by rw [← hbq29] at H; exact H
        have Nbq29 := Aside0.mk hbq29
        clear hbq29
        by_cases c30 : bq29 = true
        {
        subst c30
        rw [if_pos rfl] at H
        have H' := Aside0.mk H
        clear H
        try go_wp2
        have n0_ : Aside0 (((((w9.setCell ⟨gb365, 0, none⟩ (.string ((rd_T57 l0 x16_1).f0))).setCell ⟨gb365, 1, none⟩ (.int .i64 ((rd_T57 l0 x16_1).f1))).setCell ⟨gb365, 2, none⟩ (.string ((rd_T57 l0 x16_1).f2))).setCell ⟨gb365, 3, none⟩ (.bool (true))).heap[gb365]? = some (.cells #[.string ((rd_T57 l0 x16_1).f0), .int .i64 ((rd_T57 l0 x16_1).f1), .string ((rd_T57 l0 x16_1).f2), .bool true] 57 (0, 0))) := ⟨by (with_reducible repeat (first | refine blk_drewN ?_ _ | refine blk_drew ?_ | refine blk_alloc ?_ _)); refine blk_put (cs := #[.string ((rd_T57 l0 x16_1).f0), .int .i64 ((rd_T57 l0 x16_1).f1), .string ((rd_T57 l0 x16_1).f2), .bool false]) ?_ 3 _ rfl; (with_reducible repeat (first | refine blk_drewN ?_ _ | refine blk_drew ?_ | refine blk_alloc ?_ _)); refine blk_put (cs := #[.string ((rd_T57 l0 x16_1).f0), .int .i64 ((rd_T57 l0 x16_1).f1), .string (⟨#[]⟩ : ByteArray), .bool false]) ?_ 2 _ rfl; (with_reducible repeat (first | refine blk_drewN ?_ _ | refine blk_drew ?_ | refine blk_alloc ?_ _)); refine blk_put (cs := #[.string ((rd_T57 l0 x16_1).f0), .int .i64 0, .string (⟨#[]⟩ : ByteArray), .bool false]) ?_ 1 _ rfl; (with_reducible repeat (first | refine blk_drewN ?_ _ | refine blk_drew ?_ | refine blk_alloc ?_ _)); refine blk_put (cs := #[.string (⟨#[]⟩ : ByteArray), .int .i64 0, .string (⟨#[]⟩ : ByteArray), .bool false]) ?_ 0 _ rfl; (with_reducible repeat (first | refine blk_drewN ?_ _ | refine blk_drew ?_ | refine blk_alloc ?_ _)); exact BK365.out⟩
        have n1_ : Aside0 (MapAt (kkStr Tryz.prog 9 Tryz.underlying9) ekI64 ((((w9.setCell ⟨gb365, 0, none⟩ (.string ((rd_T57 l0 x16_1).f0))).setCell ⟨gb365, 1, none⟩ (.int .i64 ((rd_T57 l0 x16_1).f1))).setCell ⟨gb365, 2, none⟩ (.string ((rd_T57 l0 x16_1).f2))).setCell ⟨gb365, 3, none⟩ (.bool (true))) gm363 x3_1) := ⟨mp_ HM_3⟩
        have n2_ : Aside0 (Below w.heap.size w ((((w9.setCell ⟨gb365, 0, none⟩ (.string ((rd_T57 l0 x16_1).f0))).setCell ⟨gb365, 1, none⟩ (.int .i64 ((rd_T57 l0 x16_1).f1))).setCell ⟨gb365, 2, none⟩ (.string ((rd_T57 l0 x16_1).f2))).setCell ⟨gb365, 3, none⟩ (.bool (true)))) := ⟨bw1_ HB GE365⟩
        (try rw [← Nbq29.out])
        (try clear BK365)
        (try clear HM_3)
        (try clear HB)
        generalize ((((w9.setCell ⟨gb365, 0, none⟩ (.string ((rd_T57 l0 x16_1).f0))).setCell ⟨gb365, 1, none⟩ (.int .i64 ((rd_T57 l0 x16_1).f1))).setCell ⟨gb365, 2, none⟩ (.string ((rd_T57 l0 x16_1).f2))).setCell ⟨gb365, 3, none⟩ (.bool (true))) = w31 at n0_ n1_ n2_ ⊢
        have BK365 := n0_
        have HM_3 := n1_
        have HB := n2_
        clear n0_ n1_ n2_
        replace BK365 := Aside0.mk (blk_drew BK365.out)
        replace HM_3 := Aside0.mk (MapAt.drew HM_3.out)
        replace HB := Aside0.mk (below_drew1 HB.out)
        refine start_ (n := 28) (S := fun w' => w'.cell? ⟨gb365, 0, none⟩ = some (.string ((rd_T57 l0 x16_1).f0)) ∧ w'.cell? ⟨gb365, 1, none⟩ = some (.int .i64 ((rd_T57 l0 x16_1).f1)) ∧ w'.cell? ⟨gb365, 2, none⟩ = some (.string ((rd_T57 l0 x16_1).f2)) ∧ w'.cell? ⟨gb365, 3, none⟩ = some (.bool true)) (ds := []) (bs_ 28 0) (by kernel_rfl) rfl (by kernel_rfl) ⟨(blk_cell BK365.out 0).trans rfl, (blk_cell BK365.out 1).trans rfl, (blk_cell BK365.out 2).trans rfl, (blk_cell BK365.out 3).trans rfl⟩ (fun hHeld => ?_); refine with_tabW impl_TreeOk.tab7 impl_TreeOk.bits7 (fun HT_ HW_ => ?_)
        generalize w31.drew = w32 at BK365 HM_3 HB hHeld ⊢
        refine pS_ 0 ?_
        refine t4_ 1 hHeld ?_
        refine oS_ 2 (fun K hK => ?_)
        refine gS_ Tryz.func98 #[.string ((rd_T57 l0 x16_1).f0)] ?_
        with_reducible refine (impl_pathOk.calls k1 ((rd_T57 l0 x16_1).f0) true _ ?side1 A11.out).mono ?_
        (case side1 => refine EnvW.below HE.out ?_; repeat (first | (with_reducible first | exact HB.out | apply below_alloc | apply pw_below_drewN | apply below_drew1 | refine below_set ?_ GE365.out) | exact HB.out))
        rintro e w33 ⟨rfl, hb⟩
        refine ⟨_, rfl, ?_⟩
        replace HM_3 := Aside0.mk (MapAt.below (mp_ HM_3) hb)
        replace BK365 := Aside0.mk (blk_below (bk_ BK365) hb)
        replace HB := Aside0.mk (below_step (bw1_ HB GE365) hb)
        (try clear hb)
        (try clear hb2)
        (try clear hk)
        (try clear hi)
        refine hK.out _ _ ⟨(blk_cell BK365.out 0).trans rfl, (blk_cell BK365.out 1).trans rfl, (blk_cell BK365.out 2).trans rfl, (blk_cell BK365.out 3).trans rfl⟩ (fun hHeld => ?_)
        clear hK K
        refine nS_ 23 ?_
        refine pS_ 3 ?_
        refine pS_ 4 ?_
        refine pS_ 5 ?_
        refine pS_ 6 ?_
        refine pS_ 7 ?_
        refine pU_ 8 ?_
        refine pU_ 9 ?_
        refine pU_ 10 ?_
        refine pU_ 11 ?_
        refine pU_ 12 ?_
        refine pU_ 13 ?_
        refine pU_ 14 ?_
        refine pU_ 15 ?_
        refine pU_ 16 ?_
        refine pS_ 17 ?_
        refine pS_ 18 ?_
        refine pS_ 19 ?_
        refine pS_ 20 ?_
        refine t4_ 21 hHeld ?_
        refine pS_ 22 ?_
        refine pS_ 23 ?_
        refine t4_ 24 hHeld ?_
        refine pS_ 25 ?_
        refine pS_ 26 ?_
        refine pS_ 27 ?_
        refine done_ (done_of HT_.out (by kernel_rfl)) ?_
        try go_wp2
        go_meet
        case rel => (try rw [← Nbq29.out]); exact ⟨_, ((((rd_T57 l0 x16_1).f1) != 2)), (by first | rfl | (simp; done) | (simp [*]; done)), H', ⟨by have := HK1.out; first | omega | exact Nat.le_refl _⟩, ⟨mp_ HM_3⟩, ⟨bk_ BK365⟩, ⟨bw1_ HB GE365⟩⟩}
        {
        replace c30 := Bool.eq_false_iff.mpr c30
        subst c30
        rw [if_neg (show ¬ (false = true) by decide)] at H
        have H' := Aside0.mk H
        clear H
        try go_wp2
        have n0_ : Aside0 (((((w9.setCell ⟨gb365, 0, none⟩ (.string ((rd_T57 l0 x16_1).f0))).setCell ⟨gb365, 1, none⟩ (.int .i64 ((rd_T57 l0 x16_1).f1))).setCell ⟨gb365, 2, none⟩ (.string ((rd_T57 l0 x16_1).f2))).setCell ⟨gb365, 3, none⟩ (.bool (false))).heap[gb365]? = some (.cells #[.string ((rd_T57 l0 x16_1).f0), .int .i64 ((rd_T57 l0 x16_1).f1), .string ((rd_T57 l0 x16_1).f2), .bool false] 57 (0, 0))) := ⟨by (with_reducible repeat (first | refine blk_drewN ?_ _ | refine blk_drew ?_ | refine blk_alloc ?_ _)); refine blk_put (cs := #[.string ((rd_T57 l0 x16_1).f0), .int .i64 ((rd_T57 l0 x16_1).f1), .string ((rd_T57 l0 x16_1).f2), .bool false]) ?_ 3 _ rfl; (with_reducible repeat (first | refine blk_drewN ?_ _ | refine blk_drew ?_ | refine blk_alloc ?_ _)); refine blk_put (cs := #[.string ((rd_T57 l0 x16_1).f0), .int .i64 ((rd_T57 l0 x16_1).f1), .string (⟨#[]⟩ : ByteArray), .bool false]) ?_ 2 _ rfl; (with_reducible repeat (first | refine blk_drewN ?_ _ | refine blk_drew ?_ | refine blk_alloc ?_ _)); refine blk_put (cs := #[.string ((rd_T57 l0 x16_1).f0), .int .i64 0, .string (⟨#[]⟩ : ByteArray), .bool false]) ?_ 1 _ rfl; (with_reducible repeat (first | refine blk_drewN ?_ _ | refine blk_drew ?_ | refine blk_alloc ?_ _)); refine blk_put (cs := #[.string (⟨#[]⟩ : ByteArray), .int .i64 0, .string (⟨#[]⟩ : ByteArray), .bool false]) ?_ 0 _ rfl; (with_reducible repeat (first | refine blk_drewN ?_ _ | refine blk_drew ?_ | refine blk_alloc ?_ _)); exact BK365.out⟩
        have n1_ : Aside0 (MapAt (kkStr Tryz.prog 9 Tryz.underlying9) ekI64 ((((w9.setCell ⟨gb365, 0, none⟩ (.string ((rd_T57 l0 x16_1).f0))).setCell ⟨gb365, 1, none⟩ (.int .i64 ((rd_T57 l0 x16_1).f1))).setCell ⟨gb365, 2, none⟩ (.string ((rd_T57 l0 x16_1).f2))).setCell ⟨gb365, 3, none⟩ (.bool (false))) gm363 x3_1) := ⟨mp_ HM_3⟩
        have n2_ : Aside0 (Below w.heap.size w ((((w9.setCell ⟨gb365, 0, none⟩ (.string ((rd_T57 l0 x16_1).f0))).setCell ⟨gb365, 1, none⟩ (.int .i64 ((rd_T57 l0 x16_1).f1))).setCell ⟨gb365, 2, none⟩ (.string ((rd_T57 l0 x16_1).f2))).setCell ⟨gb365, 3, none⟩ (.bool (false)))) := ⟨bw1_ HB GE365⟩
        (try rw [← Nbq29.out])
        (try clear BK365)
        (try clear HM_3)
        (try clear HB)
        generalize ((((w9.setCell ⟨gb365, 0, none⟩ (.string ((rd_T57 l0 x16_1).f0))).setCell ⟨gb365, 1, none⟩ (.int .i64 ((rd_T57 l0 x16_1).f1))).setCell ⟨gb365, 2, none⟩ (.string ((rd_T57 l0 x16_1).f2))).setCell ⟨gb365, 3, none⟩ (.bool (false))) = w34 at n0_ n1_ n2_ ⊢
        have BK365 := n0_
        have HM_3 := n1_
        have HB := n2_
        clear n0_ n1_ n2_
        replace BK365 := Aside0.mk (blk_drew BK365.out)
        replace HM_3 := Aside0.mk (MapAt.drew HM_3.out)
        replace HB := Aside0.mk (below_drew1 HB.out)
        refine start_ (n := 28) (S := fun w' => w'.cell? ⟨gb365, 0, none⟩ = some (.string ((rd_T57 l0 x16_1).f0)) ∧ w'.cell? ⟨gb365, 1, none⟩ = some (.int .i64 ((rd_T57 l0 x16_1).f1)) ∧ w'.cell? ⟨gb365, 2, none⟩ = some (.string ((rd_T57 l0 x16_1).f2)) ∧ w'.cell? ⟨gb365, 3, none⟩ = some (.bool false)) (ds := []) (bs_ 28 0) (by kernel_rfl) rfl (by kernel_rfl) ⟨(blk_cell BK365.out 0).trans rfl, (blk_cell BK365.out 1).trans rfl, (blk_cell BK365.out 2).trans rfl, (blk_cell BK365.out 3).trans rfl⟩ (fun hHeld => ?_); refine with_tabW impl_TreeOk.tab7 impl_TreeOk.bits7 (fun HT_ HW_ => ?_)
        generalize w34.drew = w35 at BK365 HM_3 HB hHeld ⊢
        refine pS_ 0 ?_
        refine t4_ 1 hHeld ?_
        refine oS_ 2 (fun K hK => ?_)
        refine gS_ Tryz.func98 #[.string ((rd_T57 l0 x16_1).f0)] ?_
        with_reducible refine (impl_pathOk.calls k1 ((rd_T57 l0 x16_1).f0) true _ ?side1 A11.out).mono ?_
        (case side1 => refine EnvW.below HE.out ?_; repeat (first | (with_reducible first | exact HB.out | apply below_alloc | apply pw_below_drewN | apply below_drew1 | refine below_set ?_ GE365.out) | exact HB.out))
        rintro e w36 ⟨rfl, hb⟩
        refine ⟨_, rfl, ?_⟩
        replace HM_3 := Aside0.mk (MapAt.below (mp_ HM_3) hb)
        replace BK365 := Aside0.mk (blk_below (bk_ BK365) hb)
        replace HB := Aside0.mk (below_step (bw1_ HB GE365) hb)
        (try clear hb)
        (try clear hb2)
        (try clear hk)
        (try clear hi)
        refine hK.out _ _ ⟨(blk_cell BK365.out 0).trans rfl, (blk_cell BK365.out 1).trans rfl, (blk_cell BK365.out 2).trans rfl, (blk_cell BK365.out 3).trans rfl⟩ (fun hHeld => ?_)
        clear hK K
        refine nS_ 23 ?_
        refine pS_ 3 ?_
        refine pS_ 4 ?_
        refine pS_ 5 ?_
        refine pS_ 6 ?_
        refine pS_ 7 ?_
        refine pU_ 8 ?_
        refine pU_ 9 ?_
        refine pU_ 10 ?_
        refine pU_ 11 ?_
        refine pU_ 12 ?_
        refine pU_ 13 ?_
        refine pU_ 14 ?_
        refine pU_ 15 ?_
        refine pU_ 16 ?_
        refine pS_ 17 ?_
        refine pS_ 18 ?_
        refine pS_ 19 ?_
        refine pS_ 20 ?_
        refine t4_ 21 hHeld ?_
        refine pS_ 22 ?_
        refine pU_ 23 ?_
        refine pU_ 24 ?_
        refine pU_ 25 ?_
        refine pS_ 26 ?_
        refine pS_ 27 ?_
        refine done_ (done_of HT_.out (by kernel_rfl)) ?_
        try go_wp2
        go_meet
        case rel => (try rw [← Nbq29.out]); exact ⟨_, (false), (by first | rfl | (simp; done) | (simp [*]; done)), H', ⟨by have := HK1.out; first | omega | exact Nat.le_refl _⟩, ⟨mp_ HM_3⟩, ⟨bk_ BK365⟩, ⟨bw1_ HB GE365⟩⟩}}}
        {
        replace c12 := Bool.eq_false_iff.mpr c12
        subst c12
        rw [if_neg (show ¬ (false = true) by decide)] at H
        have H' := Aside0.mk H
        clear H
        try go_wp2
        have n0_ : Aside0 (((((w9.setCell ⟨gb365, 0, none⟩ (.string ((rd_T57 l0 x16_1).f0))).setCell ⟨gb365, 1, none⟩ (.int .i64 ((rd_T57 l0 x16_1).f1))).setCell ⟨gb365, 2, none⟩ (.string ((rd_T57 l0 x16_1).f2))).setCell ⟨gb365, 3, none⟩ (.bool ((rd_T57 l0 x16_1).f3))).heap[gb365]? = some (.cells #[.string ((rd_T57 l0 x16_1).f0), .int .i64 ((rd_T57 l0 x16_1).f1), .string ((rd_T57 l0 x16_1).f2), .bool ((rd_T57 l0 x16_1).f3)] 57 (0, 0))) := ⟨by (with_reducible repeat (first | refine blk_drewN ?_ _ | refine blk_drew ?_ | refine blk_alloc ?_ _)); refine blk_put (cs := #[.string ((rd_T57 l0 x16_1).f0), .int .i64 ((rd_T57 l0 x16_1).f1), .string ((rd_T57 l0 x16_1).f2), .bool false]) ?_ 3 _ rfl; (with_reducible repeat (first | refine blk_drewN ?_ _ | refine blk_drew ?_ | refine blk_alloc ?_ _)); refine blk_put (cs := #[.string ((rd_T57 l0 x16_1).f0), .int .i64 ((rd_T57 l0 x16_1).f1), .string (⟨#[]⟩ : ByteArray), .bool false]) ?_ 2 _ rfl; (with_reducible repeat (first | refine blk_drewN ?_ _ | refine blk_drew ?_ | refine blk_alloc ?_ _)); refine blk_put (cs := #[.string ((rd_T57 l0 x16_1).f0), .int .i64 0, .string (⟨#[]⟩ : ByteArray), .bool false]) ?_ 1 _ rfl; (with_reducible repeat (first | refine blk_drewN ?_ _ | refine blk_drew ?_ | refine blk_alloc ?_ _)); refine blk_put (cs := #[.string (⟨#[]⟩ : ByteArray), .int .i64 0, .string (⟨#[]⟩ : ByteArray), .bool false]) ?_ 0 _ rfl; (with_reducible repeat (first | refine blk_drewN ?_ _ | refine blk_drew ?_ | refine blk_alloc ?_ _)); exact BK365.out⟩
        have n1_ : Aside0 (MapAt (kkStr Tryz.prog 9 Tryz.underlying9) ekI64 ((((w9.setCell ⟨gb365, 0, none⟩ (.string ((rd_T57 l0 x16_1).f0))).setCell ⟨gb365, 1, none⟩ (.int .i64 ((rd_T57 l0 x16_1).f1))).setCell ⟨gb365, 2, none⟩ (.string ((rd_T57 l0 x16_1).f2))).setCell ⟨gb365, 3, none⟩ (.bool ((rd_T57 l0 x16_1).f3))) gm363 x3_1) := ⟨mp_ HM_3⟩
        have n2_ : Aside0 (Below w.heap.size w ((((w9.setCell ⟨gb365, 0, none⟩ (.string ((rd_T57 l0 x16_1).f0))).setCell ⟨gb365, 1, none⟩ (.int .i64 ((rd_T57 l0 x16_1).f1))).setCell ⟨gb365, 2, none⟩ (.string ((rd_T57 l0 x16_1).f2))).setCell ⟨gb365, 3, none⟩ (.bool ((rd_T57 l0 x16_1).f3)))) := ⟨bw1_ HB GE365⟩
        (try clear BK365)
        (try clear HM_3)
        (try clear HB)
        generalize ((((w9.setCell ⟨gb365, 0, none⟩ (.string ((rd_T57 l0 x16_1).f0))).setCell ⟨gb365, 1, none⟩ (.int .i64 ((rd_T57 l0 x16_1).f1))).setCell ⟨gb365, 2, none⟩ (.string ((rd_T57 l0 x16_1).f2))).setCell ⟨gb365, 3, none⟩ (.bool ((rd_T57 l0 x16_1).f3))) = w37 at n0_ n1_ n2_ ⊢
        have BK365 := n0_
        have HM_3 := n1_
        have HB := n2_
        clear n0_ n1_ n2_
        replace BK365 := Aside0.mk (blk_drew BK365.out)
        replace HM_3 := Aside0.mk (MapAt.drew HM_3.out)
        replace HB := Aside0.mk (below_drew1 HB.out)
        refine start_ (n := 28) (S := fun w' => w'.cell? ⟨gb365, 0, none⟩ = some (.string ((rd_T57 l0 x16_1).f0)) ∧ w'.cell? ⟨gb365, 1, none⟩ = some (.int .i64 ((rd_T57 l0 x16_1).f1)) ∧ w'.cell? ⟨gb365, 2, none⟩ = some (.string ((rd_T57 l0 x16_1).f2)) ∧ w'.cell? ⟨gb365, 3, none⟩ = some (.bool ((rd_T57 l0 x16_1).f3))) (ds := []) (bs_ 28 0) (by kernel_rfl) rfl (by kernel_rfl) ⟨(blk_cell BK365.out 0).trans rfl, (blk_cell BK365.out 1).trans rfl, (blk_cell BK365.out 2).trans rfl, (blk_cell BK365.out 3).trans rfl⟩ (fun hHeld => ?_); refine with_tabW impl_TreeOk.tab7 impl_TreeOk.bits7 (fun HT_ HW_ => ?_)
        generalize w37.drew = w38 at BK365 HM_3 HB hHeld ⊢
        refine pS_ 0 ?_
        refine t4_ 1 hHeld ?_
        refine oS_ 2 (fun K hK => ?_)
        refine gS_ Tryz.func98 #[.string ((rd_T57 l0 x16_1).f0)] ?_
        with_reducible refine (impl_pathOk.calls k1 ((rd_T57 l0 x16_1).f0) false _ ?side1 A11.out).mono ?_
        (case side1 => refine EnvW.below HE.out ?_; repeat (first | (with_reducible first | exact HB.out | apply below_alloc | apply pw_below_drewN | apply below_drew1 | refine below_set ?_ GE365.out) | exact HB.out))
        rintro e w39 ⟨rfl, hb⟩
        refine ⟨_, rfl, ?_⟩
        replace HM_3 := Aside0.mk (MapAt.below (mp_ HM_3) hb)
        replace BK365 := Aside0.mk (blk_below (bk_ BK365) hb)
        replace HB := Aside0.mk (below_step (bw1_ HB GE365) hb)
        (try clear hb)
        (try clear hb2)
        (try clear hk)
        (try clear hi)
        refine hK.out _ _ ⟨(blk_cell BK365.out 0).trans rfl, (blk_cell BK365.out 1).trans rfl, (blk_cell BK365.out 2).trans rfl, (blk_cell BK365.out 3).trans rfl⟩ (fun hHeld => ?_)
        clear hK K
        refine nS_ 23 ?_
        refine pS_ 3 ?_
        refine pS_ 4 ?_
        refine pU_ 5 ?_
        refine pU_ 6 ?_
        refine pU_ 7 ?_
        refine pU_ 8 ?_
        refine pU_ 9 ?_
        refine pU_ 10 ?_
        refine pU_ 11 ?_
        refine pU_ 12 ?_
        refine pU_ 13 ?_
        refine pU_ 14 ?_
        refine pU_ 15 ?_
        refine pU_ 16 ?_
        refine pU_ 17 ?_
        refine pS_ 18 ?_
        refine pS_ 19 ?_
        refine pU_ 20 ?_
        refine pU_ 21 ?_
        refine pU_ 22 ?_
        refine pU_ 23 ?_
        refine pU_ 24 ?_
        refine pU_ 25 ?_
        refine pU_ 26 ?_
        refine pS_ 27 ?_
        refine done_ (done_of HT_.out (by kernel_rfl)) ?_
        try go_wp2
        go_meet
        case rel => exact ⟨_, (true), (by first | rfl | (simp; done) | (simp [*]; done)), H', ⟨by have := HK1.out; first | omega | exact Nat.le_refl _⟩, ⟨mp_ HM_3⟩, ⟨bk_ BK365⟩, ⟨bw1_ HB GE365⟩⟩}
       case rest =>
        clear HC8
        try clear c1
        try clear p2
        try clear q2
        try clear c3
        try clear c9
        try clear c12
        try clear q29
        try clear c30
        obtain ⟨kq, x48_7, rfl, HA, HJ7, HM_3, BK365, HB⟩ := hcut
        cases kq with
        | zero => exact absurd HA.out (by simp [impl_TreeOk.j1])
        | succ kj7 =>
             have H := HA.out
             clear HA
             simp only [impl_TreeOk.j1] at H
             by_cases c40 : x48_7 = true
             {
             subst c40
             rw [if_pos rfl] at H
             obtain rfl := Option.some.inj H
             go_wp2
             go_ret
             exact ⟨eR_, bw1_ HB GE365⟩}
             {
             replace c40 := Bool.eq_false_iff.mpr c40
             subst c40
             rw [if_neg (show ¬ (false = true) by decide)] at H
             by_cases c41 : ((rd_T57 l0 x16_1).f1) = 1
             {
             rw [if_pos c41] at H
             have c41b0 : (((rd_T57 l0 x16_1).f1) == 1) = true := beq_iff_eq.mpr c41
             have c41b1 : (((rd_T57 l0 x16_1).f1) != 1) = false := bne_eq_false_iff_eq.mpr c41
             clear c41
             by_cases c42 : ((rd_T57 l0 x16_1).f2).toList = ([] : List UInt8)
             {
             rw [if_pos c42] at H
             have c42b0 : (((rd_T57 l0 x16_1).f2).toList == ([] : List UInt8)) = true := beq_iff_eq.mpr c42
             have c42b1 : (((rd_T57 l0 x16_1).f2).toList != ([] : List UInt8)) = false := bne_eq_false_iff_eq.mpr c42
             clear c42
             by_cases c43 : x3_1.length < 1099511627776
             {
             rw [if_pos c43] at H
             have LMc43 := Aside0.mk c43
             clear c43
             by_cases c44 : ((rd_T57 l0 x16_1).f0).size ≤ 9223372036854775807
             {
             rw [if_pos c44] at H
             have c44b0 := eq_true c44
             have c44b1 := decide_eq_true c44
             try have c44b2 : (9223372036854775807 < ((rd_T57 l0 x16_1).f0).size) = False := eq_false (Nat.not_lt.2 c44)
             clear c44
             obtain ⟨y368, hy368⟩ : ∃ y_ : List (ByteArray × Int), y_ = (x3_1 ++ [(((rd_T57 l0 x16_1).f0), 1)]) := ⟨_, rfl⟩
             replace H : (impl_TreeOk.l0 kj7 l0 y368 l0 (l0.length : Int) (wrap64 (x16_1 + 1))) = some r := rH_ hy368 H
             have Ny368 := Aside0.mk hy368
             clear hy368
             have H' := Aside0.mk H
             clear H
             have hcz45_0 := cz_ BK365 0 (.string ((rd_T57 l0 x16_1).f0))
             have hcz45_1 := cz_ BK365 1 (.int .i64 ((rd_T57 l0 x16_1).f1))
             have hcz45_2 := cz_ BK365 2 (.string ((rd_T57 l0 x16_1).f2))
             have hcz45_3 := cz_ BK365 3 (.bool ((rd_T57 l0 x16_1).f3))
             have hfz45_0 := blk_frozen BK365.out 0
             have hfz45_1 := blk_frozen BK365.out 1
             have hfz45_2 := blk_frozen BK365.out 2
             have hfz45_3 := blk_frozen BK365.out 3
             go_wp2_with (first | ((with_reducible refine gate_put (t := 99) (p := 56) rfl ?_); (try (refine gate_guard (by rfl) ?_; dsimp only)); refine map_put (kkStr Tryz.prog 9 Tryz.underlying9) ekI64 rfl 99 3 56 _ _ rfl Tryz.underlying99 gm363 x3_1 ((rd_T57 l0 x16_1).f0) 1 rfl rfl (show ((rd_T57 l0 x16_1).f0).size ≤ 9223372036854775807 from by first | assumption | exact of_eq_true (by assumption) | exact of_decide_eq_true (by assumption) | decide | omega) rfl (mp_ HM_3) LMc43.out ?_; intro w46 hmp hg; rw [← Ny368.out] at hmp; replace BK365 := Aside0.mk (far_blk (mp_ HM_3) hg (show (_ : World).heap[gb365]? = some (.cells #[.string ((rd_T57 l0 x16_1).f0), .int .i64 ((rd_T57 l0 x16_1).f1), .string ((rd_T57 l0 x16_1).f2), .bool ((rd_T57 l0 x16_1).f3)] 57 (0, 0)) from bk_ BK365)); replace HM_3 := Aside0.mk (hmp); replace HB := Aside0.mk (far_below GMgm363.out (below_size (bw1_ HB GE365)) hg (bw1_ HB GE365)); clear hmp hg))
             go_roundg kj7
             case measure => have := HK1.out; have := HJ7.out; omega
             case rel => exact ⟨(y368), (wrap64 (x16_1 + 1)), (by first | rfl | (simp; done) | (simp [*]; done)), H', ⟨by have := HK1.out; have := HJ7.out; omega⟩, ⟨mp_ HM_3⟩, ⟨bw1_ HB GE365⟩⟩}
             {
             rw [if_neg c44] at H
             exact absurd H (by simp)}}
             {
             rw [if_neg c43] at H
             exact absurd H (by simp)}}
             {
             rw [if_neg c42] at H
             have c42b0 : (((rd_T57 l0 x16_1).f2).toList == ([] : List UInt8)) = false := beq_eq_false_iff_ne.mpr c42
             have c42b1 : (((rd_T57 l0 x16_1).f2).toList != ([] : List UInt8)) = true := bne_iff_ne.mpr c42
             obtain rfl := Option.some.inj H
             have hcz47_0 := cz_ BK365 0 (.string ((rd_T57 l0 x16_1).f0))
             have hcz47_1 := cz_ BK365 1 (.int .i64 ((rd_T57 l0 x16_1).f1))
             have hcz47_2 := cz_ BK365 2 (.string ((rd_T57 l0 x16_1).f2))
             have hcz47_3 := cz_ BK365 3 (.bool ((rd_T57 l0 x16_1).f3))
             have hfz47_0 := blk_frozen BK365.out 0
             have hfz47_1 := blk_frozen BK365.out 1
             have hfz47_2 := blk_frozen BK365.out 2
             have hfz47_3 := blk_frozen BK365.out 3
             go_wp2
             go_ret
             exact ⟨eR_, bw1_ HB GE365⟩}}
             {
             rw [if_neg c41] at H
             have c41b0 : (((rd_T57 l0 x16_1).f1) == 1) = false := beq_eq_false_iff_ne.mpr c41
             have c41b1 : (((rd_T57 l0 x16_1).f1) != 1) = true := bne_iff_ne.mpr c41
             by_cases c48 : ((rd_T57 l0 x16_1).f1) = 2
             {
             rw [if_pos c48] at H
             have c48b0 : (((rd_T57 l0 x16_1).f1) == 2) = true := beq_iff_eq.mpr c48
             have c48b1 : (((rd_T57 l0 x16_1).f1) != 2) = false := bne_eq_false_iff_eq.mpr c48
             clear c48
             by_cases c49 : (((rd_T57 l0 x16_1).f2).size : Int) > 20000
             {
             rw [if_pos c49] at H
             have c49b0 : decide (20000 < (((rd_T57 l0 x16_1).f2).size : Int)) = true := decide_eq_true c49
             have c49b1 : decide (20000 < ((rd_T57 l0 x16_1).f2).size) = true := decide_eq_true (by omega)
             clear c49
             obtain rfl := Option.some.inj H
             have hcz50_0 := cz_ BK365 0 (.string ((rd_T57 l0 x16_1).f0))
             have hcz50_1 := cz_ BK365 1 (.int .i64 ((rd_T57 l0 x16_1).f1))
             have hcz50_2 := cz_ BK365 2 (.string ((rd_T57 l0 x16_1).f2))
             have hcz50_3 := cz_ BK365 3 (.bool ((rd_T57 l0 x16_1).f3))
             have hfz50_0 := blk_frozen BK365.out 0
             have hfz50_1 := blk_frozen BK365.out 1
             have hfz50_2 := blk_frozen BK365.out 2
             have hfz50_3 := blk_frozen BK365.out 3
             go_wp2
             go_ret
             exact ⟨eR_, bw1_ HB GE365⟩}
             {
             rw [if_neg c49] at H
             have c49b0 : decide (20000 < (((rd_T57 l0 x16_1).f2).size : Int)) = false := decide_eq_false c49
             have c49b1 : decide (20000 < ((rd_T57 l0 x16_1).f2).size) = false := decide_eq_false (by omega)
             clear c49
             have H' := Aside0.mk H
             clear H
             have hcz51_0 := cz_ BK365 0 (.string ((rd_T57 l0 x16_1).f0))
             have hcz51_1 := cz_ BK365 1 (.int .i64 ((rd_T57 l0 x16_1).f1))
             have hcz51_2 := cz_ BK365 2 (.string ((rd_T57 l0 x16_1).f2))
             have hcz51_3 := cz_ BK365 3 (.bool ((rd_T57 l0 x16_1).f3))
             have hfz51_0 := blk_frozen BK365.out 0
             have hfz51_1 := blk_frozen BK365.out 1
             have hfz51_2 := blk_frozen BK365.out 2
             have hfz51_3 := blk_frozen BK365.out 3
             go_wp2
             go_roundg kj7
             case measure => have := HK1.out; have := HJ7.out; omega
             case rel => exact ⟨(x3_1), (wrap64 (x16_1 + 1)), (by first | rfl | (simp; done) | (simp [*]; done)), H', ⟨by have := HK1.out; have := HJ7.out; omega⟩, ⟨mp_ HM_3⟩, ⟨bw1_ HB GE365⟩⟩}}
             {
             rw [if_neg c48] at H
             have c48b0 : (((rd_T57 l0 x16_1).f1) == 2) = false := beq_eq_false_iff_ne.mpr c48
             have c48b1 : (((rd_T57 l0 x16_1).f1) != 2) = true := bne_iff_ne.mpr c48
             by_cases c52 : ((rd_T57 l0 x16_1).f1) = 3
             {
             rw [if_pos c52] at H
             have c52b0 : (((rd_T57 l0 x16_1).f1) == 3) = true := beq_iff_eq.mpr c52
             have c52b1 : (((rd_T57 l0 x16_1).f1) != 3) = false := bne_eq_false_iff_eq.mpr c52
             clear c52
             by_cases c53 : (((rd_T57 l0 x16_1).f2).size : Int) < 1
             {
             rw [if_pos c53] at H
             have c53b0 := decide_eq_true c53
             have c53b1 : decide (((rd_T57 l0 x16_1).f2).size < 1) = true := decide_eq_true (by omega)
             clear c53
             obtain rfl := Option.some.inj H
             have hcz54_0 := cz_ BK365 0 (.string ((rd_T57 l0 x16_1).f0))
             have hcz54_1 := cz_ BK365 1 (.int .i64 ((rd_T57 l0 x16_1).f1))
             have hcz54_2 := cz_ BK365 2 (.string ((rd_T57 l0 x16_1).f2))
             have hcz54_3 := cz_ BK365 3 (.bool ((rd_T57 l0 x16_1).f3))
             have hfz54_0 := blk_frozen BK365.out 0
             have hfz54_1 := blk_frozen BK365.out 1
             have hfz54_2 := blk_frozen BK365.out 2
             have hfz54_3 := blk_frozen BK365.out 3
             go_wp2
             go_ret
             exact ⟨eR_, bw1_ HB GE365⟩}
             {
             rw [if_neg c53] at H
             have c53b0 := decide_eq_false c53
             have c53b1 : decide (((rd_T57 l0 x16_1).f2).size < 1) = false := decide_eq_false (by omega)
             clear c53
             by_cases c55 : (((rd_T57 l0 x16_1).f2).size : Int) > 20000
             {
             rw [if_pos c55] at H
             have c55b0 : decide (20000 < (((rd_T57 l0 x16_1).f2).size : Int)) = true := decide_eq_true c55
             have c55b1 : decide (20000 < ((rd_T57 l0 x16_1).f2).size) = true := decide_eq_true (by omega)
             clear c55
             obtain rfl := Option.some.inj H
             have hcz56_0 := cz_ BK365 0 (.string ((rd_T57 l0 x16_1).f0))
             have hcz56_1 := cz_ BK365 1 (.int .i64 ((rd_T57 l0 x16_1).f1))
             have hcz56_2 := cz_ BK365 2 (.string ((rd_T57 l0 x16_1).f2))
             have hcz56_3 := cz_ BK365 3 (.bool ((rd_T57 l0 x16_1).f3))
             have hfz56_0 := blk_frozen BK365.out 0
             have hfz56_1 := blk_frozen BK365.out 1
             have hfz56_2 := blk_frozen BK365.out 2
             have hfz56_3 := blk_frozen BK365.out 3
             go_wp2
             go_ret
             exact ⟨eR_, bw1_ HB GE365⟩}
             {
             rw [if_neg c55] at H
             have c55b0 : decide (20000 < (((rd_T57 l0 x16_1).f2).size : Int)) = false := decide_eq_false c55
             have c55b1 : decide (20000 < ((rd_T57 l0 x16_1).f2).size) = false := decide_eq_false (by omega)
             clear c55
             have H' := Aside0.mk H
             clear H
             have hcz57_0 := cz_ BK365 0 (.string ((rd_T57 l0 x16_1).f0))
             have hcz57_1 := cz_ BK365 1 (.int .i64 ((rd_T57 l0 x16_1).f1))
             have hcz57_2 := cz_ BK365 2 (.string ((rd_T57 l0 x16_1).f2))
             have hcz57_3 := cz_ BK365 3 (.bool ((rd_T57 l0 x16_1).f3))
             have hfz57_0 := blk_frozen BK365.out 0
             have hfz57_1 := blk_frozen BK365.out 1
             have hfz57_2 := blk_frozen BK365.out 2
             have hfz57_3 := blk_frozen BK365.out 3
             go_wp2
             go_roundg kj7
             case measure => have := HK1.out; have := HJ7.out; omega
             case rel => exact ⟨(x3_1), (wrap64 (x16_1 + 1)), (by first | rfl | (simp; done) | (simp [*]; done)), H', ⟨by have := HK1.out; have := HJ7.out; omega⟩, ⟨mp_ HM_3⟩, ⟨bw1_ HB GE365⟩⟩}}}
             {
             rw [if_neg c52] at H
             have c52b0 : (((rd_T57 l0 x16_1).f1) == 3) = false := beq_eq_false_iff_ne.mpr c52
             have c52b1 : (((rd_T57 l0 x16_1).f1) != 3) = true := bne_iff_ne.mpr c52
             obtain rfl := Option.some.inj H
             have hcz58_0 := cz_ BK365 0 (.string ((rd_T57 l0 x16_1).f0))
             have hcz58_1 := cz_ BK365 1 (.int .i64 ((rd_T57 l0 x16_1).f1))
             have hcz58_2 := cz_ BK365 2 (.string ((rd_T57 l0 x16_1).f2))
             have hcz58_3 := cz_ BK365 3 (.bool ((rd_T57 l0 x16_1).f3))
             have hfz58_0 := blk_frozen BK365.out 0
             have hfz58_1 := blk_frozen BK365.out 1
             have hfz58_2 := blk_frozen BK365.out 2
             have hfz58_3 := blk_frozen BK365.out 3
             go_wp2
             go_ret
             exact ⟨eR_, bw1_ HB GE365⟩}}}}}
       {
       rw [if_neg c7] at H
       exact absurd H (by simp)}}
       {
       rw [if_neg c6] at H
       exact absurd H (by simp)}}
       {
       rw [if_neg c5] at H
       have c5b0 := decide_eq_false c5
       clear c5
       have H' := Aside0.mk H
       clear H
       go_wp2
       go_loopg [80] k1 (fun kq v80 w' => ∃ (x80_2 : Int), v80 = .int .i64 x80_2 ∧ Aside0 (impl_TreeOk.l1 kq x3_1 l0 (l0.length : Int) x80_2 = some r) ∧ Aside0 (kq ≤ k1) ∧ Aside0 (MapAt (kkStr Tryz.prog 9 Tryz.underlying9) ekI64 w' gm363 x3_1) ∧ Aside0 (Below w.heap.size w w'))
       case atStart => exact ⟨(0), (by first | rfl | (simp; done) | (simp [*]; done)), H', ⟨Nat.le_refl _⟩, ⟨mp_ HM_3⟩, ⟨bw_ HB⟩⟩
       case round =>
        clear H'
        try clear c1
        try clear p2
        try clear q2
        try clear c3
        try clear c4
        try clear c5
        try clear c5b0
        try clear c6
        try clear p6
        try clear c7
        try clear c9
        try clear c12
        try clear q29
        try clear c30
        try clear c40
        try clear c41
        try clear c41b0
        try clear c41b1
        try clear c42
        try clear c42b0
        try clear c42b1
        try clear c43
        try clear c44
        try clear c44b0
        try clear c44b1
        try clear c44b2
        try clear c48
        try clear c48b0
        try clear c48b1
        try clear c49
        try clear c49b0
        try clear c49b1
        try clear c52
        try clear c52b0
        try clear c52b1
        try clear c53
        try clear c53b0
        try clear c53b1
        try clear c55
        try clear c55b0
        try clear c55b1
        try clear hcz45_0
        try clear hcz45_1
        try clear hcz45_2
        try clear hcz45_3
        try clear hcz47_0
        try clear hcz47_1
        try clear hcz47_2
        try clear hcz47_3
        try clear hcz50_0
        try clear hcz50_1
        try clear hcz50_2
        try clear hcz50_3
        try clear hcz51_0
        try clear hcz51_1
        try clear hcz51_2
        try clear hcz51_3
        try clear hcz54_0
        try clear hcz54_1
        try clear hcz54_2
        try clear hcz54_3
        try clear hcz56_0
        try clear hcz56_1
        try clear hcz56_2
        try clear hcz56_3
        try clear hcz57_0
        try clear hcz57_1
        try clear hcz57_2
        try clear hcz57_3
        try clear hcz58_0
        try clear hcz58_1
        try clear hcz58_2
        try clear hcz58_3
        try clear hfz45_0
        try clear hfz45_1
        try clear hfz45_2
        try clear hfz45_3
        try clear hfz47_0
        try clear hfz47_1
        try clear hfz47_2
        try clear hfz47_3
        try clear hfz50_0
        try clear hfz50_1
        try clear hfz50_2
        try clear hfz50_3
        try clear hfz51_0
        try clear hfz51_1
        try clear hfz51_2
        try clear hfz51_3
        try clear hfz54_0
        try clear hfz54_1
        try clear hfz54_2
        try clear hfz54_3
        try clear hfz56_0
        try clear hfz56_1
        try clear hfz56_2
        try clear hfz56_3
        try clear hfz57_0
        try clear hfz57_1
        try clear hfz57_2
        try clear hfz57_3
        try clear hfz58_0
        try clear hfz58_1
        try clear hfz58_2
        try clear hfz58_3
        try clear p2
        try clear q2
        try clear q29
        obtain ⟨x80_2, rfl, HA, HK2, HM_3, HB⟩ := hrel
        cases gk with
        | zero => exact absurd HA.out (by simp [impl_TreeOk.l1])
        | succ k2 =>
             have H := HA.out
             clear HA
             simp only [impl_TreeOk.l1] at H
             by_cases c59 : x80_2 < (l0.length : Int)
             {
             rw [if_pos c59] at H
             have c59b0 := decide_eq_true c59
             clear c59
             by_cases c60 : 0 ≤ x80_2
             {
             rw [if_pos c60] at H
             have c60b0 := decide_eq_true c60
             clear c60
             by_cases c61 : x80_2 < (l0.length : Int)
             {
             rw [if_pos c61] at H
             have c61b0 := decide_eq_true c61
             clear c61
             replace H := Option.bind_eq_some_iff.mp H
             obtain ⟨⟨t371, t372⟩, A620, H⟩ := H
             have A62 := Aside0.mk A620
             clear A620
             by_cases c63 : t372 = true
             {
             subst c63
             rw [if_pos rfl] at H
             by_cases c64 : t371.size ≤ 9223372036854775807
             {
             rw [if_pos c64] at H
             have c64b0 := eq_true c64
             have c64b1 := decide_eq_true c64
             try have c64b2 : (9223372036854775807 < t371.size) = False := eq_false (Nat.not_lt.2 c64)
             clear c64
             by_cases c65 : (mgetD 0 x3_1 t371) = 0
             {
             rw [if_pos c65] at H
             have c65b0 : ((mgetD 0 x3_1 t371) == 0) = true := beq_iff_eq.mpr c65
             have c65b1 : ((mgetD 0 x3_1 t371) != 0) = false := bne_eq_false_iff_eq.mpr c65
             clear c65
             obtain rfl := Option.some.inj H
             have p369 : 0 ≤ (x80_2 : Int) := dA_
             have q369 : x80_2 < (l0.length : Int) := dA_
             obtain ⟨ad369, e369, hx369_0, hx369_1, hx369_2, hx369_3⟩ := at_T57 HR0.out x80_2 p369 q369
             cases e369
             replace hx369_0 := hX_ HB hx369_0
             replace hx369_1 := hX_ HB hx369_1
             replace hx369_2 := hX_ HB hx369_2
             replace hx369_3 := hX_ HB hx369_3
             replace p369 := eq_true p369
             replace q369 := eq_true q369
             go_wp2_with (first | ((with_reducible refine gate_dst (N := 7) rfl ?_); (try (refine gate_guard (by rfl) ?_; dsimp only)); refine bE_ 7 #[.string (⟨#[]⟩ : ByteArray), .int .i64 0, .string (⟨#[]⟩ : ByteArray), .bool false] 57 ?_; intro gb370 hg w66 hbox hb; replace HM_3 := Aside0.mk (MapAt.below (mp_ HM_3) hb); have BK370 := Aside0.mk (hbox); have GW370 := Aside0.mk (ge_ hg (bw_ HB)); have GE370 := Aside0.mk (ge_ hg (bw_ HB)); replace HB := Aside0.mk (below_step (bw_ HB) hb); clear hb hbox hg; have hcz67_0 := cz_ BK370 0 (.string (⟨#[]⟩ : ByteArray)); have hcz67_1 := cz_ BK370 1 (.int .i64 0); have hcz67_2 := cz_ BK370 2 (.string (⟨#[]⟩ : ByteArray)); have hcz67_3 := cz_ BK370 3 (.bool false); have hfz67_0 := blk_frozen BK370.out 0; have hfz67_1 := blk_frozen BK370.out 1; have hfz67_2 := blk_frozen BK370.out 2; have hfz67_3 := blk_frozen BK370.out 3) | ((with_reducible refine gate_callee (f := 99) rfl ?_); refine gL_ (some 87) Tryz.func99 #[.string ((rd_T57 l0 x80_2).f0)] ?_; (with_reducible refine (impl_upper.calls ((rd_T57 l0 x80_2).f0) t371 true _ A62.out).mono ?_); rintro e w' ⟨rfl, ⟨nd, rfl⟩⟩; refine ⟨_, rfl, ?_⟩) | ((with_reducible refine gate_dst (N := 94) rfl ?_); (try (refine gate_guard (by rfl) ?_; dsimp only)); refine map_look (kkStr Tryz.prog 9 Tryz.underlying9) ekI64 rfl (N := 94) rfl 99 3 _ _ rfl 0 Tryz.underlying99 rfl gm363 x3_1 t371 rfl rfl (show t371.size ≤ 9223372036854775807 from by first | assumption | exact of_eq_true (by assumption) | exact of_decide_eq_true (by assumption) | decide | omega) (mp_ HM_3) ?_; dsimp only [ekI64, ekBool]))
             go_ret
             exact ⟨eR_, bw1_ HB GE370⟩}
             {
             rw [if_neg c65] at H
             have c65b0 : ((mgetD 0 x3_1 t371) == 0) = false := beq_eq_false_iff_ne.mpr c65
             have c65b1 : ((mgetD 0 x3_1 t371) != 0) = true := bne_iff_ne.mpr c65
             have H' := Aside0.mk H
             clear H
             have p369 : 0 ≤ (x80_2 : Int) := dA_
             have q369 : x80_2 < (l0.length : Int) := dA_
             obtain ⟨ad369, e369, hx369_0, hx369_1, hx369_2, hx369_3⟩ := at_T57 HR0.out x80_2 p369 q369
             cases e369
             replace hx369_0 := hX_ HB hx369_0
             replace hx369_1 := hX_ HB hx369_1
             replace hx369_2 := hX_ HB hx369_2
             replace hx369_3 := hX_ HB hx369_3
             replace p369 := eq_true p369
             replace q369 := eq_true q369
             go_wp2_with (first | ((with_reducible refine gate_dst (N := 7) rfl ?_); (try (refine gate_guard (by rfl) ?_; dsimp only)); refine bE_ 7 #[.string (⟨#[]⟩ : ByteArray), .int .i64 0, .string (⟨#[]⟩ : ByteArray), .bool false] 57 ?_; intro gb370 hg w68 hbox hb; replace HM_3 := Aside0.mk (MapAt.below (mp_ HM_3) hb); have BK370 := Aside0.mk (hbox); have GW370 := Aside0.mk (ge_ hg (bw_ HB)); have GE370 := Aside0.mk (ge_ hg (bw_ HB)); replace HB := Aside0.mk (below_step (bw_ HB) hb); clear hb hbox hg; have hcz69_0 := cz_ BK370 0 (.string (⟨#[]⟩ : ByteArray)); have hcz69_1 := cz_ BK370 1 (.int .i64 0); have hcz69_2 := cz_ BK370 2 (.string (⟨#[]⟩ : ByteArray)); have hcz69_3 := cz_ BK370 3 (.bool false); have hfz69_0 := blk_frozen BK370.out 0; have hfz69_1 := blk_frozen BK370.out 1; have hfz69_2 := blk_frozen BK370.out 2; have hfz69_3 := blk_frozen BK370.out 3) | ((with_reducible refine gate_callee (f := 99) rfl ?_); refine gL_ (some 87) Tryz.func99 #[.string ((rd_T57 l0 x80_2).f0)] ?_; (with_reducible refine (impl_upper.calls ((rd_T57 l0 x80_2).f0) t371 true _ A62.out).mono ?_); rintro e w' ⟨rfl, ⟨nd, rfl⟩⟩; refine ⟨_, rfl, ?_⟩) | ((with_reducible refine gate_dst (N := 94) rfl ?_); (try (refine gate_guard (by rfl) ?_; dsimp only)); refine map_look (kkStr Tryz.prog 9 Tryz.underlying9) ekI64 rfl (N := 94) rfl 99 3 _ _ rfl 0 Tryz.underlying99 rfl gm363 x3_1 t371 rfl rfl (show t371.size ≤ 9223372036854775807 from by first | assumption | exact of_eq_true (by assumption) | exact of_decide_eq_true (by assumption) | decide | omega) (mp_ HM_3) ?_; dsimp only [ekI64, ekBool]))
             go_roundg k2
             case measure => have := HK1.out; have := HK2.out; omega
             case rel => exact ⟨(wrap64 (x80_2 + 1)), (by first | rfl | (simp; done) | (simp [*]; done)), H', ⟨by have := HK1.out; have := HK2.out; omega⟩, ⟨mp_ HM_3⟩, ⟨bw1_ HB GE370⟩⟩}}
             {
             rw [if_neg c64] at H
             exact absurd H (by simp)}}
             {
             replace c63 := Bool.eq_false_iff.mpr c63
             subst c63
             rw [if_neg (show ¬ (false = true) by decide)] at H
             have H' := Aside0.mk H
             clear H
             have p369 : 0 ≤ (x80_2 : Int) := dA_
             have q369 : x80_2 < (l0.length : Int) := dA_
             obtain ⟨ad369, e369, hx369_0, hx369_1, hx369_2, hx369_3⟩ := at_T57 HR0.out x80_2 p369 q369
             cases e369
             replace hx369_0 := hX_ HB hx369_0
             replace hx369_1 := hX_ HB hx369_1
             replace hx369_2 := hX_ HB hx369_2
             replace hx369_3 := hX_ HB hx369_3
             replace p369 := eq_true p369
             replace q369 := eq_true q369
             go_wp2_with (first | ((with_reducible refine gate_dst (N := 7) rfl ?_); (try (refine gate_guard (by rfl) ?_; dsimp only)); refine bE_ 7 #[.string (⟨#[]⟩ : ByteArray), .int .i64 0, .string (⟨#[]⟩ : ByteArray), .bool false] 57 ?_; intro gb370 hg w70 hbox hb; replace HM_3 := Aside0.mk (MapAt.below (mp_ HM_3) hb); have BK370 := Aside0.mk (hbox); have GW370 := Aside0.mk (ge_ hg (bw_ HB)); have GE370 := Aside0.mk (ge_ hg (bw_ HB)); replace HB := Aside0.mk (below_step (bw_ HB) hb); clear hb hbox hg; have hcz71_0 := cz_ BK370 0 (.string (⟨#[]⟩ : ByteArray)); have hcz71_1 := cz_ BK370 1 (.int .i64 0); have hcz71_2 := cz_ BK370 2 (.string (⟨#[]⟩ : ByteArray)); have hcz71_3 := cz_ BK370 3 (.bool false); have hfz71_0 := blk_frozen BK370.out 0; have hfz71_1 := blk_frozen BK370.out 1; have hfz71_2 := blk_frozen BK370.out 2; have hfz71_3 := blk_frozen BK370.out 3) | ((with_reducible refine gate_callee (f := 99) rfl ?_); refine gL_ (some 87) Tryz.func99 #[.string ((rd_T57 l0 x80_2).f0)] ?_; (with_reducible refine (impl_upper.calls ((rd_T57 l0 x80_2).f0) t371 false _ A62.out).mono ?_); rintro e w' ⟨rfl, ⟨nd, rfl⟩⟩; refine ⟨_, rfl, ?_⟩))
             go_roundg k2
             case measure => have := HK1.out; have := HK2.out; omega
             case rel => exact ⟨(wrap64 (x80_2 + 1)), (by first | rfl | (simp; done) | (simp [*]; done)), H', ⟨by have := HK1.out; have := HK2.out; omega⟩, ⟨mp_ HM_3⟩, ⟨bw1_ HB GE370⟩⟩}}
             {
             rw [if_neg c61] at H
             exact absurd H (by simp)}}
             {
             rw [if_neg c60] at H
             exact absurd H (by simp)}}
             {
             rw [if_neg c59] at H
             have c59b0 := decide_eq_false c59
             clear c59
             obtain rfl := Option.some.inj H
             go_wp2
             go_ret
             exact ⟨eR_, bw_ HB⟩
}}}
def spec_l10Find.l0 : Nat → List (S57) → ByteArray → Int → Int → Option (Int)
 | 0, _, _, _, _ => none
 | k + 1, x0, x1, x5, x6 => if x5 < x6 then (if 0 ≤ (wrap64 (Int.tdiv (wrap64 (x5 + x6)) 2)) then (if (wrap64 (Int.tdiv (wrap64 (x5 + x6)) 2)) < (x0.length : Int) then (if (Op.bytesLess (((rd_T57 x0 (wrap64 (Int.tdiv (wrap64 (x5 + x6)) 2))).f0).toList) x1.toList) = true then (spec_l10Find.l0 k x0 x1 (wrap64 ((wrap64 (Int.tdiv (wrap64 (x5 + x6)) 2)) + 1)) x6) else (spec_l10Find.l0 k x0 x1 x5 (wrap64 (Int.tdiv (wrap64 (x5 + x6)) 2)))) else (none)) else (none)) else (if x5 < (x0.length : Int) then (if 0 ≤ x5 then (if ((rd_T57 x0 x5).f0).toList = x1.toList then (some x5) else (some (-1))) else (none)) else (some (-1)))
def spec_l10Find.f (k : Nat) (l0 : List (S57)) (a1 : ByteArray) : Option (Int) := spec_l10Find.l0 k l0 a1 0 (l0.length : Int)
theorem spec_l10Find.calls (k : Nat) (A0 : Option Addr) (c0 : Nat) (l0 : List (S57)) (a1 : ByteArray) (r : Int) (w : World) (hr0 : Kd.C k57 w A0 l0.length l0) (hc0 : l0.length ≤ c0) (h : spec_l10Find.f k l0 a1 = some r) :
 Calls Tryz.prog 90 #[.slice A0 l0.length c0, .string a1] w fun e w' => e = .returned (.int .i64 r) ∧ Drawn0 w w' := by
 have HR0 := Aside0.mk hr0
 have HC0 := Aside0.mk hc0
 clear hr0 hc0
 have H : (spec_l10Find.l0 k l0 a1 0 (l0.length : Int)) = some r := h
 clear h
 have H' := Aside0.mk H
 clear H
 go_enter Tryz.func90, Tryz.ntmps90
 go_wp2
 go_loopg [5, 6] k (fun kq v5 v6 w' => ∃ (x5_1 : Int) (x6_1 : Int), v5 = .int .i64 x5_1 ∧ v6 = .int .i64 x6_1 ∧ Aside0 (spec_l10Find.l0 kq l0 a1 x5_1 x6_1 = some r) ∧ Aside0 (kq ≤ k) ∧ Drawn0 w w')
 case atStart => exact ⟨(0), ((l0.length : Int)), (by first | rfl | (simp; done) | (simp [*]; done)), (by first | rfl | (simp; done) | (simp [*]; done)), H', ⟨Nat.le_refl _⟩, dR_⟩
 case round =>
  clear H'
  try clear p2
  obtain ⟨x5_1, x6_1, rfl, rfl, HA, HK1, ⟨m1, rfl⟩⟩ := hrel
  cases gk with
  | zero => exact absurd HA.out (by simp [spec_l10Find.l0])
  | succ k1 =>
       have H := HA.out
       clear HA
       simp only [spec_l10Find.l0] at H
       by_cases c3 : x5_1 < x6_1
       {
       rw [if_pos c3] at H
       have c3b0 := decide_eq_true c3
       clear c3
       obtain ⟨ji4, hji4⟩ : ∃ j_ : Int, (wrap64 (Int.tdiv (wrap64 (x5_1 + x6_1)) 2)) = j_ := ⟨_, rfl⟩
       replace H : (if 0 ≤ (ji4) then (if (ji4) < (l0.length : Int) then (if (Op.bytesLess (((rd_T57 l0 (ji4)).f0).toList) a1.toList) = true then (spec_l10Find.l0 k1 l0 a1 (wrap64 ((ji4) + 1)) x6_1) else (spec_l10Find.l0 k1 l0 a1 x5_1 ji4)) else (none)) else (none)) = some r := by first | (rw [hji4] at H; exact H) | (simp only [hji4] at H ⊢; exact H)
       have hji4w : (IntKind.i64.wrap (Int.tdiv (wrap64 (x5_1 + x6_1)) 2)) = ji4 := (i64_w _).trans hji4
       by_cases c5 : 0 ≤ (ji4)
       {
       rw [if_pos c5] at H
       have c5b0 := decide_eq_true c5
       clear c5
       by_cases c6 : (ji4) < (l0.length : Int)
       {
       rw [if_pos c6] at H
       have c6b0 := decide_eq_true c6
       clear c6
       by_cases c7 : (Op.bytesLess (((rd_T57 l0 (ji4)).f0).toList) a1.toList) = true
       {
       rw [if_pos c7] at H
       have c7b0 : (Op.bytesLess (((rd_T57 l0 (ji4)).f0).toList) a1.toList) = true := c7
       clear c7
       have H' := Aside0.mk H
       clear H
       have p135 : 0 ≤ ((ji4) : Int) := dA_
       have q135 : (ji4) < (l0.length : Int) := dA_
       obtain ⟨ad135, e135, hx135_0, hx135_1, hx135_2, hx135_3⟩ := at_T57 HR0.out (ji4) p135 q135
       cases e135
       replace p135 := eq_true p135
       replace q135 := eq_true q135
       go_wp2
       go_roundg k1
       case measure => have := HK1.out; omega
       case rel => exact ⟨(wrap64 ((ji4) + 1)), (x6_1), (by first | rfl | (simp; done) | (simp only [← hji4] <;> (first | rfl | simp)) | (simp [*]; done)), (by first | rfl | (simp; done) | (simp [*]; done)), H', ⟨by have := HK1.out; omega⟩, dR_⟩}
       {
       rw [if_neg c7] at H
       have c7b0 : (Op.bytesLess (((rd_T57 l0 (ji4)).f0).toList) a1.toList) = false := by simpa using c7
       clear c7
       have H' := Aside0.mk H
       clear H
       have p135 : 0 ≤ ((ji4) : Int) := dA_
       have q135 : (ji4) < (l0.length : Int) := dA_
       obtain ⟨ad135, e135, hx135_0, hx135_1, hx135_2, hx135_3⟩ := at_T57 HR0.out (ji4) p135 q135
       cases e135
       replace p135 := eq_true p135
       replace q135 := eq_true q135
       go_wp2
       go_roundg k1
       case measure => have := HK1.out; omega
       case rel => exact ⟨(x5_1), (ji4), (by first | rfl | (simp; done) | (simp [*]; done)), (by first | rfl | (simp; done) | (simp only [← hji4] <;> (first | rfl | simp)) | (simp [*]; done)), H', ⟨by have := HK1.out; omega⟩, dR_⟩}}
       {
       rw [if_neg c6] at H
       exact absurd H (by simp)}}
       {
       rw [if_neg c5] at H
       exact absurd H (by simp)}}
       {
       rw [if_neg c3] at H
       have c3b0 := decide_eq_false c3
       clear c3
       by_cases c8 : x5_1 < (l0.length : Int)
       {
       rw [if_pos c8] at H
       have c8b0 := decide_eq_true c8
       clear c8
       by_cases c9 : 0 ≤ x5_1
       {
       rw [if_pos c9] at H
       have c9b0 := decide_eq_true c9
       clear c9
       by_cases c10 : ((rd_T57 l0 x5_1).f0).toList = a1.toList
       {
       rw [if_pos c10] at H
       have c10b0 : (((rd_T57 l0 x5_1).f0).toList == a1.toList) = true := beq_iff_eq.mpr c10
       have c10b1 : (((rd_T57 l0 x5_1).f0).toList != a1.toList) = false := bne_eq_false_iff_eq.mpr c10
       clear c10
       obtain rfl := Option.some.inj H
       have p136 : 0 ≤ (x5_1 : Int) := dA_
       have q136 : x5_1 < (l0.length : Int) := dA_
       obtain ⟨ad136, e136, hx136_0, hx136_1, hx136_2, hx136_3⟩ := at_T57 HR0.out x5_1 p136 q136
       cases e136
       replace p136 := eq_true p136
       replace q136 := eq_true q136
       go_wp2
       go_ret
       exact ⟨eS_, dR_⟩}
       {
       rw [if_neg c10] at H
       have c10b0 : (((rd_T57 l0 x5_1).f0).toList == a1.toList) = false := beq_eq_false_iff_ne.mpr c10
       have c10b1 : (((rd_T57 l0 x5_1).f0).toList != a1.toList) = true := bne_iff_ne.mpr c10
       obtain rfl := Option.some.inj H
       have p136 : 0 ≤ (x5_1 : Int) := dA_
       have q136 : x5_1 < (l0.length : Int) := dA_
       obtain ⟨ad136, e136, hx136_0, hx136_1, hx136_2, hx136_3⟩ := at_T57 HR0.out x5_1 p136 q136
       cases e136
       replace p136 := eq_true p136
       replace q136 := eq_true q136
       go_wp2
       go_ret
       exact ⟨eS_, dR_⟩}}
       {
       rw [if_neg c9] at H
       exact absurd H (by simp)}}
       {
       rw [if_neg c8] at H
       have c8b0 := decide_eq_false c8
       clear c8
       obtain rfl := Option.some.inj H
       go_wp2
       go_ret
       exact ⟨eS_, dR_⟩
}}
def spec_l10Dir.f (k : Nat) (l0 : List (S57)) (a1 : ByteArray) : Option (Bool) := (spec_l10Find.f k l0 a1).bind fun t137 => (if t137 ≥ 0 then (if 0 ≤ t137 then (if t137 < (l0.length : Int) then (some (((rd_T57 l0 t137).f1) == 1)) else (none)) else (none)) else (some false))
theorem spec_l10Dir.calls (k : Nat) (A0 : Option Addr) (c0 : Nat) (l0 : List (S57)) (a1 : ByteArray) (r : Bool) (w : World) (hr0 : Kd.C k57 w A0 l0.length l0) (hc0 : l0.length ≤ c0) (h : spec_l10Dir.f k l0 a1 = some r) :
 Calls Tryz.prog 72 #[.slice A0 l0.length c0, .string a1] w fun e w' => e = .returned (.bool r) ∧ Drawn0 w w' := by
 have HR0 := Aside0.mk hr0
 have HC0 := Aside0.mk hc0
 clear hr0 hc0
 have H : ((spec_l10Find.f k l0 a1).bind fun t137 => (if t137 ≥ 0 then (if 0 ≤ t137 then (if t137 < (l0.length : Int) then (some (((rd_T57 l0 t137).f1) == 1)) else (none)) else (none)) else (some false))) = some r := h
 clear h
 replace H := Option.bind_eq_some_iff.mp H
 obtain ⟨t137, A30, H⟩ := H
 have A3 := Aside0.mk A30
 clear A30
 by_cases c4 : t137 ≥ 0
 {
 rw [if_pos c4] at H
 have c4b0 : decide (0 ≤ t137) = true := decide_eq_true c4
 clear c4
 by_cases c5 : 0 ≤ t137
 {
 rw [if_pos c5] at H
 have c5b0 := decide_eq_true c5
 clear c5
 by_cases c6 : t137 < (l0.length : Int)
 {
 rw [if_pos c6] at H
 have c6b0 := decide_eq_true c6
 clear c6
 obtain rfl := Option.some.inj H
 go_enter Tryz.func72, Tryz.ntmps72
 go_wp2_with (first | ((with_reducible refine gate_callee (f := 90) rfl ?_); refine gL_ (some 8) Tryz.func90 #[.slice A0 l0.length c0, .string a1] ?_; (with_reducible refine (spec_l10Find.calls k _ _ l0 a1 t137 _ ?side1 ?side2 A3.out).mono ?_); (case side1 => repeat (first | exact HR0.out | (with_reducible refine Kd.C_alloc ?_ _) | (with_reducible refine Kd.C_drewN ?_ _) | (with_reducible refine Kd.C_drew ?_))); (case side2 => exact HC0.out); rintro e w' ⟨rfl, ⟨nd, rfl⟩⟩; refine ⟨_, rfl, ?_⟩; have p138 : 0 ≤ (t137 : Int) := dA_; have q138 : t137 < (l0.length : Int) := dA_; obtain ⟨ad138, e138, hx138_0, hx138_1, hx138_2, hx138_3⟩ := at_T57 HR0.out t137 p138 q138; cases e138; replace p138 := eq_true p138; replace q138 := eq_true q138))
 go_ret
 exact ⟨eS_, dR_⟩}
 {
 rw [if_neg c6] at H
 exact absurd H (by simp)}}
 {
 rw [if_neg c5] at H
 exact absurd H (by simp)}}
 {
 rw [if_neg c4] at H
 have c4b0 : decide (0 ≤ t137) = false := decide_eq_false c4
 clear c4
 obtain rfl := Option.some.inj H
 go_enter Tryz.func72, Tryz.ntmps72
 go_wp2_with (first | ((with_reducible refine gate_callee (f := 90) rfl ?_); refine gL_ (some 8) Tryz.func90 #[.slice A0 l0.length c0, .string a1] ?_; (with_reducible refine (spec_l10Find.calls k _ _ l0 a1 t137 _ ?side1 ?side2 A3.out).mono ?_); (case side1 => repeat (first | exact HR0.out | (with_reducible refine Kd.C_alloc ?_ _) | (with_reducible refine Kd.C_drewN ?_ _) | (with_reducible refine Kd.C_drew ?_))); (case side2 => exact HC0.out); rintro e w' ⟨rfl, ⟨nd, rfl⟩⟩; refine ⟨_, rfl, ?_⟩))
 go_ret
 exact ⟨eS_, dR_⟩
}
end Go.Proofs.YtikjbfjnbhaljaaGreatDoor.P
end
