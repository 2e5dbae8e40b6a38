/- Texts of Sto, put together by program. -/
import Derived.Test.YtkhhkpjeafknpaaGreatDoorMSto2
import Derived.Test.YtkhhkpjeafknpaaGreatDoorProg
import Derived.Below
import Derived.Deep.Draws
import Derived.Deep.AppendLies
import Derived.Maps.AppendAt
import Derived.OwnWalk
import Derived.Laws.BytesArg
import Derived.Laws.MakeOwn
import Derived.Laws.OwnMore
import Derived.Deep.OwnRows
import Derived.Tactics
import Derived.Lib.ConvBytes
import Derived.Laws.Slices
import Derived.WalkKit
import Derived.KernelRfl
import Derived.RowKit3
import Derived.Deep.LoopGhost
import Derived.Deep.QuietTactic
import Derived.BigQuiet
import Derived.WideLaws
import Derived.Deep.DeepCutAuto
import Derived.Deep.CutBlock
import Derived.Deep.RegionHeld3
import Derived.Laws.Rows
import Derived.Lib.AppendStr
import Derived.ArgAppend
import Derived.Laws.IdiomCopy
import Derived.OrdersHeld
import Derived.Laws.BitsLemmas
import Derived.Lib.Overlaps
import Derived.Lib.AppendZerosOnto
import Derived.RowKit
import Derived.Test.YtkhhkpjeafknpaaGreatDoorMSto1

section
namespace Go.Proofs.YtkhhkpjeafknpaaGreatDoor.P
open Go.RowKit Go.Proofs.YtkhhkpjeafknpaaGreatDoorW.PrintWords Go.Proofs.YtkhhkpjeafknpaaGreatDoorW.PrintLast Go.Proofs.YtkhhkpjeafknpaaGreatDoorW.PrintMore Go.Proofs.YtkhhkpjeafknpaaGreatDoorM
attribute [local go_sem] max2_int min2_int max_two min_two max_three min_three max_four min_four
set_option linter.unusedVariables false
set_option linter.unusedSimpArgs false
def errW : Option Int → Value
 | none => .nilIface
 | some c => .iface 0 (.int .i64 c)
theorem errW_none : errW none = .nilIface := rfl
theorem errW_some (c : Int) : errW (some c) = .iface 0 (.int .i64 c) := rfl
theorem info5 : (Tryz.prog.info? 5).map (fun i => (i.zero, i.size, i.bytes)) = some (some (.int .u8 0), 1, 1) := by kernel_rfl
theorem info9 : (Tryz.prog.info? 9).map (fun i => (i.zero, i.size, i.bytes)) = some (some (.string ⟨#[]⟩), 1, 16) := by kernel_rfl
theorem info54 : (Tryz.prog.info? 54).map (fun i => (i.zero, i.size, i.bytes)) = some (some (.agg #[(.string ⟨#[]⟩), (.string ⟨#[]⟩), (.slice none 0 0), (.string ⟨#[]⟩), (.slice none 0 0)]), 5, 96) := by kernel_rfl
theorem info70 : (Tryz.prog.info? 70).map (fun i => (i.zero, i.size, i.bytes)) = some (some (.agg #[(.string ⟨#[]⟩), (.int .i64 0), (.string ⟨#[]⟩), (.bool false)]), 4, 48) := by kernel_rfl
structure S66 where
 f0 : ByteArray
 f1 : Int
 f2 : ByteArray
 f3 : Bool
def z66 : S66 := ⟨(⟨#[]⟩ : ByteArray), (0 : Int), (⟨#[]⟩ : ByteArray), false⟩
def k66 : Kd S66 := Kd.iso (Kd.pair Kd.string (Kd.pair (Kd.int .i64) (Kd.pair Kd.string Kd.bool))) (fun x : S66 => (x.f0, x.f1, x.f2, x.f3))
theorem k66_open {w : World} {x : S66} {cs : List Value} (h : k66.K w x cs) : cs = [.string x.f0, .int .i64 x.f1, .string x.f2, .bool x.f3] := by
 obtain ⟨_, _, rfl, rfl, ⟨_, _, rfl, rfl, ⟨_, _, rfl, rfl, rfl⟩⟩⟩ := h
 exact rfl
def rd_T66 (xs : List S66) (i : Int) : S66 := xs.getD i.toNat z66
theorem at_T66 {w : World} {A : Option Addr} {n : Nat} {xs : List S66} (h : Kd.C k66 w A n xs) (i : Int) (h0 : 0 ≤ i) (h1 : i < n) : ∃ ad , A = some ad ∧ w.cell? (ad.add (i.toNat * 4)) = some (.string (rd_T66 xs i).f0) ∧ w.cell? ⟨(ad.add (i.toNat * 4)).block, (ad.add (i.toNat * 4)).off + 1, none⟩ = some (.int .i64 (rd_T66 xs i).f1) ∧ w.cell? ⟨(ad.add (i.toNat * 4)).block, (ad.add (i.toNat * 4)).off + 2, none⟩ = some (.string (rd_T66 xs i).f2) ∧ w.cell? ⟨(ad.add (i.toNat * 4)).block, (ad.add (i.toNat * 4)).off + 3, none⟩ = some (.bool (rd_T66 xs i).f3) := by
 obtain ⟨ad, c, e, _, hK, hc0⟩ := Kd.C_get h z66 i h0 h1
 have hc : ∀ j u, c[j]? = some u → w.cell? (ad.add (i.toNat * 4 + j)) = some u := hc0
 obtain rfl := k66_open hK
 exact ⟨ad, e, hc 0 _ rfl, by rw [← add_field _ _ 1 (by omega)]; exact hc 1 _ rfl, by rw [← add_field _ _ 2 (by omega)]; exact hc 2 _ rfl, by rw [← add_field _ _ 3 (by omega)]; exact hc 3 _ rfl⟩
structure S50 where
 f0 : ByteArray
 f1 : ByteArray
 f2 : (List ByteArray)
 f3 : ByteArray
 f4 : (List S66)
def z50 : S50 := ⟨(⟨#[]⟩ : ByteArray), (⟨#[]⟩ : ByteArray), ([] : List ByteArray), (⟨#[]⟩ : ByteArray), ([] : List S66)⟩
def k50 : Kd S50 := Kd.iso (Kd.pair Kd.string (Kd.pair Kd.string (Kd.pair (Kd.slice 9 Kd.string) (Kd.pair Kd.string (Kd.slice 66 k66))))) (fun x : S50 => (x.f0, x.f1, x.f2, x.f3, x.f4))
theorem k50_open {w : World} {x : S50} {cs : List Value} (h : k50.K w x cs) : ∃ A2 c2 A4 c4, cs = [.string x.f0, .string x.f1, .slice A2 x.f2.length c2, .string x.f3, .slice A4 x.f4.length c4] ∧ x.f2.length ≤ c2 ∧ Kd.string.C w A2 x.f2.length x.f2 ∧ x.f4.length ≤ c4 ∧ k66.C w A4 x.f4.length x.f4 := by
 obtain ⟨_, _, rfl, rfl, ⟨_, _, rfl, rfl, ⟨_, _, rfl, ⟨A2, c2, rfl, l2, g2⟩, ⟨_, _, rfl, rfl, ⟨A4, c4, rfl, l4, g4⟩⟩⟩⟩⟩ := h
 exact ⟨A2, c2, A4, c4, rfl, l2, g2, l4, g4⟩
def rd_T50 (xs : List S50) (i : Int) : S50 := xs.getD i.toNat z50
theorem at_T50 {w : World} {A : Option Addr} {n : Nat} {xs : List S50} (h : Kd.C k50 w A n xs) (i : Int) (h0 : 0 ≤ i) (h1 : i < n) : ∃ ad A2 c2 A4 c4, A = some ad ∧ w.cell? (ad.add (i.toNat * 5)) = some (.string (rd_T50 xs i).f0) ∧ w.cell? ⟨(ad.add (i.toNat * 5)).block, (ad.add (i.toNat * 5)).off + 1, none⟩ = some (.string (rd_T50 xs i).f1) ∧ w.cell? ⟨(ad.add (i.toNat * 5)).block, (ad.add (i.toNat * 5)).off + 2, none⟩ = some (.slice A2 (rd_T50 xs i).f2.length c2) ∧ w.cell? ⟨(ad.add (i.toNat * 5)).block, (ad.add (i.toNat * 5)).off + 3, none⟩ = some (.string (rd_T50 xs i).f3) ∧ w.cell? ⟨(ad.add (i.toNat * 5)).block, (ad.add (i.toNat * 5)).off + 4, none⟩ = some (.slice A4 (rd_T50 xs i).f4.length c4) ∧ (rd_T50 xs i).f2.length ≤ c2 ∧ Kd.string.C w A2 (rd_T50 xs i).f2.length (rd_T50 xs i).f2 ∧ (rd_T50 xs i).f4.length ≤ c4 ∧ k66.C w A4 (rd_T50 xs i).f4.length (rd_T50 xs i).f4 := by
 obtain ⟨ad, c, e, _, hK, hc0⟩ := Kd.C_get h z50 i h0 h1
 have hc : ∀ j u, c[j]? = some u → w.cell? (ad.add (i.toNat * 5 + j)) = some u := hc0
 obtain ⟨A2, c2, A4, c4, rfl, l2, g2, l4, g4⟩ := k50_open hK
 exact ⟨ad, A2, c2, A4, c4, e, hc 0 _ rfl, by rw [← add_field _ _ 1 (by omega)]; exact hc 1 _ rfl, by rw [← add_field _ _ 2 (by omega)]; exact hc 2 _ rfl, by rw [← add_field _ _ 3 (by omega)]; exact hc 3 _ rfl, by rw [← add_field _ _ 4 (by omega)]; exact hc 4 _ rfl, l2, g2, l4, g4⟩
structure S70 where
 f0 : ByteArray
 f1 : Int
 f2 : ByteArray
 f3 : Bool
def z70 : S70 := ⟨(⟨#[]⟩ : ByteArray), (0 : Int), (⟨#[]⟩ : ByteArray), false⟩
def k70 : Kd S70 := Kd.iso (Kd.pair Kd.string (Kd.pair (Kd.int .i64) (Kd.pair Kd.string Kd.bool))) (fun x : S70 => (x.f0, x.f1, x.f2, x.f3))
theorem k70_open {w : World} {x : S70} {cs : List Value} (h : k70.K w x cs) : cs = [.string x.f0, .int .i64 x.f1, .string x.f2, .bool x.f3] := by
 obtain ⟨_, _, rfl, rfl, ⟨_, _, rfl, rfl, ⟨_, _, rfl, rfl, rfl⟩⟩⟩ := h
 exact rfl
theorem k70_openM {w : World} {base : Nat} {ok : Nat → Prop} {x : S70} {cs : List Value} (h : k70.M w base ok x cs) : cs = [.string x.f0, .int .i64 x.f1, .string x.f2, .bool x.f3] := by
 obtain ⟨_, _, rfl, rfl, ⟨_, _, rfl, rfl, ⟨_, _, rfl, rfl, rfl⟩⟩⟩ := h
 exact rfl
theorem k70_mkM (w : World) (base : Nat) (ok : Nat → Prop) (x : S70)  : k70.M w base ok x [.string x.f0, .int .i64 x.f1, .string x.f2, .bool x.f3] := ⟨[.string x.f0], [.int .i64 x.f1, .string x.f2, .bool x.f3], rfl, rfl, ⟨[.int .i64 x.f1], [.string x.f2, .bool x.f3], rfl, rfl, ⟨[.string x.f2], [.bool x.f3], rfl, rfl, rfl⟩⟩⟩
def rd_T70 (xs : List S70) (i : Int) : S70 := xs.getD i.toNat z70
theorem at_T70 {w : World} {A : Option Addr} {n : Nat} {xs : List S70} (h : Kd.C k70 w A n xs) (i : Int) (h0 : 0 ≤ i) (h1 : i < n) : ∃ ad , A = some ad ∧ w.cell? (ad.add (i.toNat * 4)) = some (.string (rd_T70 xs i).f0) ∧ w.cell? ⟨(ad.add (i.toNat * 4)).block, (ad.add (i.toNat * 4)).off + 1, none⟩ = some (.int .i64 (rd_T70 xs i).f1) ∧ w.cell? ⟨(ad.add (i.toNat * 4)).block, (ad.add (i.toNat * 4)).off + 2, none⟩ = some (.string (rd_T70 xs i).f2) ∧ w.cell? ⟨(ad.add (i.toNat * 4)).block, (ad.add (i.toNat * 4)).off + 3, none⟩ = some (.bool (rd_T70 xs i).f3) := by
 obtain ⟨ad, c, e, _, hK, hc0⟩ := Kd.C_get h z70 i h0 h1
 have hc : ∀ j u, c[j]? = some u → w.cell? (ad.add (i.toNat * 4 + j)) = some u := hc0
 obtain rfl := k70_open hK
 exact ⟨ad, e, hc 0 _ rfl, by rw [← add_field _ _ 1 (by omega)]; exact hc 1 _ rfl, by rw [← add_field _ _ 2 (by omega)]; exact hc 2 _ rfl, by rw [← add_field _ _ 3 (by omega)]; exact hc 3 _ rfl⟩
structure S54 where
 f0 : ByteArray
 f1 : ByteArray
 f2 : (List ByteArray)
 f3 : ByteArray
 f4 : (List S70)
def z54 : S54 := ⟨(⟨#[]⟩ : ByteArray), (⟨#[]⟩ : ByteArray), ([] : List ByteArray), (⟨#[]⟩ : ByteArray), ([] : List S70)⟩
def k54 : Kd S54 := Kd.iso (Kd.pair Kd.string (Kd.pair Kd.string (Kd.pair (Kd.slice 9 Kd.string) (Kd.pair Kd.string (Kd.slice 70 k70))))) (fun x : S54 => (x.f0, x.f1, x.f2, x.f3, x.f4))
theorem k54_open {w : World} {x : S54} {cs : List Value} (h : k54.K w x cs) : ∃ A2 c2 A4 c4, cs = [.string x.f0, .string x.f1, .slice A2 x.f2.length c2, .string x.f3, .slice A4 x.f4.length c4] ∧ x.f2.length ≤ c2 ∧ Kd.string.C w A2 x.f2.length x.f2 ∧ x.f4.length ≤ c4 ∧ k70.C w A4 x.f4.length x.f4 := by
 obtain ⟨_, _, rfl, rfl, ⟨_, _, rfl, rfl, ⟨_, _, rfl, ⟨A2, c2, rfl, l2, g2⟩, ⟨_, _, rfl, rfl, ⟨A4, c4, rfl, l4, g4⟩⟩⟩⟩⟩ := h
 exact ⟨A2, c2, A4, c4, rfl, l2, g2, l4, g4⟩
theorem k54_openM {w : World} {base : Nat} {ok : Nat → Prop} {x : S54} {cs : List Value} (h : k54.M w base ok x cs) : ∃ v2 v4, cs = [.string x.f0, .string x.f1, v2, .string x.f3, v4] ∧ Kd.string.R 9 w base ok v2 x.f2 ∧ k70.R 70 w base ok v4 x.f4 := by
 obtain ⟨_, _, rfl, rfl, ⟨_, _, rfl, rfl, ⟨_, _, rfl, ⟨v2, rfl, g2⟩, ⟨_, _, rfl, rfl, ⟨v4, rfl, g4⟩⟩⟩⟩⟩ := h
 exact ⟨v2, v4, rfl, g2, g4⟩
theorem k54_mkM (w : World) (base : Nat) (ok : Nat → Prop) (x : S54) {v2 : Value} (g2 : Kd.string.R 9 w base ok v2 x.f2) {v4 : Value} (g4 : k70.R 70 w base ok v4 x.f4) : k54.M w base ok x [.string x.f0, .string x.f1, v2, .string x.f3, v4] := ⟨[.string x.f0], [.string x.f1, v2, .string x.f3, v4], rfl, rfl, ⟨[.string x.f1], [v2, .string x.f3, v4], rfl, rfl, ⟨[v2], [.string x.f3, v4], rfl, ⟨v2, rfl, g2⟩, ⟨[.string x.f3], [v4], rfl, rfl, ⟨v4, rfl, g4⟩⟩⟩⟩⟩
def rd_T54 (xs : List S54) (i : Int) : S54 := xs.getD i.toNat z54
theorem at_T54 {w : World} {A : Option Addr} {n : Nat} {xs : List S54} (h : Kd.C k54 w A n xs) (i : Int) (h0 : 0 ≤ i) (h1 : i < n) : ∃ ad A2 c2 A4 c4, A = some ad ∧ w.cell? (ad.add (i.toNat * 5)) = some (.string (rd_T54 xs i).f0) ∧ w.cell? ⟨(ad.add (i.toNat * 5)).block, (ad.add (i.toNat * 5)).off + 1, none⟩ = some (.string (rd_T54 xs i).f1) ∧ w.cell? ⟨(ad.add (i.toNat * 5)).block, (ad.add (i.toNat * 5)).off + 2, none⟩ = some (.slice A2 (rd_T54 xs i).f2.length c2) ∧ w.cell? ⟨(ad.add (i.toNat * 5)).block, (ad.add (i.toNat * 5)).off + 3, none⟩ = some (.string (rd_T54 xs i).f3) ∧ w.cell? ⟨(ad.add (i.toNat * 5)).block, (ad.add (i.toNat * 5)).off + 4, none⟩ = some (.slice A4 (rd_T54 xs i).f4.length c4) ∧ (rd_T54 xs i).f2.length ≤ c2 ∧ Kd.string.C w A2 (rd_T54 xs i).f2.length (rd_T54 xs i).f2 ∧ (rd_T54 xs i).f4.length ≤ c4 ∧ k70.C w A4 (rd_T54 xs i).f4.length (rd_T54 xs i).f4 := by
 obtain ⟨ad, c, e, _, hK, hc0⟩ := Kd.C_get h z54 i h0 h1
 have hc : ∀ j u, c[j]? = some u → w.cell? (ad.add (i.toNat * 5 + j)) = some u := hc0
 obtain ⟨A2, c2, A4, c4, rfl, l2, g2, l4, g4⟩ := k54_open hK
 exact ⟨ad, A2, c2, A4, c4, e, hc 0 _ rfl, by rw [← add_field _ _ 1 (by omega)]; exact hc 1 _ rfl, by rw [← add_field _ _ 2 (by omega)]; exact hc 2 _ rfl, by rw [← add_field _ _ 3 (by omega)]; exact hc 3 _ rfl, by rw [← add_field _ _ 4 (by omega)]; exact hc 4 _ rfl, l2, g2, l4, g4⟩
end Go.Proofs.YtkhhkpjeafknpaaGreatDoor.P
end

section
namespace Go.Proofs.YtkhhkpjeafknpaaGreatDoor.P
open Go.RowKit Go.Proofs.YtkhhkpjeafknpaaGreatDoorW.PrintWords Go.Proofs.YtkhhkpjeafknpaaGreatDoorW.PrintLast Go.Proofs.YtkhhkpjeafknpaaGreatDoorW.PrintMore Go.Proofs.YtkhhkpjeafknpaaGreatDoorM
attribute [local go_sem] max2_int min2_int max_two min_two max_three min_three max_four min_four
set_option linter.unusedVariables false
set_option linter.unusedSimpArgs false
def impl_storePaths.l0 : Nat → List ByteArray → List (S54) → Int → Int → Option (List ByteArray)
 | 0, _, _, _, _ => none
 | k + 1, x3, x7, x8, x9 => if x9 < x8 then (if 0 ≤ x9 then (if x9 < (x7.length : Int) then (if x3.length < 8796093022208 then (impl_storePaths.l0 k (x3 ++ [(rd_T54 x7 x9).f0]) x7 x8 (wrap64 (x9 + 1))) else (none)) else (none)) else (none)) else (some x3)
def impl_storePaths.f (k : Nat) (l0 : List (S54)) : Option (List ByteArray) := impl_storePaths.l0 k (([] : List ByteArray)) l0 (l0.length : Int) 0
set_option maxHeartbeats 8000000 in
set_option maxRecDepth 100000 in
theorem impl_storePaths.calls (k : Nat) (A0 : Option Addr) (c0 : Nat) (l0 : List (S54)) (r : List ByteArray) (w : World) (hr0 : Kd.C k54 w A0 l0.length l0) (hc0 : l0.length ≤ c0) (h : impl_storePaths.f k l0 = some r) :
 Calls Tryz.prog 33 #[.slice A0 l0.length c0] w fun e w' => ∃ v0_ : Value, e = .returned (v0_) ∧ Kd.R Kd.string 9 w' w.heap.size (fun _ => True) v0_ r ∧ Below w.heap.size w w' := by
 have hu54 := Tryz.underlying54
 have HR0 := Aside0.mk hr0
 have HC0 := Aside0.mk hc0
 clear hr0 hc0
 have HB := Aside0.mk (Below.refl w.heap.size w)
 have H : (impl_storePaths.l0 k (([] : List ByteArray)) l0 (l0.length : Int) 0) = some r := h
 clear h
 obtain ⟨y329, hy329⟩ : ∃ y_ : List ByteArray, y_ = (([] : List ByteArray)) := ⟨_, rfl⟩
 replace H : (impl_storePaths.l0 k y329 l0 (l0.length : Int) 0) = some r := by first | (rw [hy329]; with_reducible exact H) | (have H2_ := (Option.bind_some _ _).symm.trans H; rw [hy329]; with_reducible exact H2_) | (have H2_ := (Option.bind_some _ _).symm.trans H; with_reducible exact H2_) | with_reducible exact H | (rw [hy329]; exact H) | exact H
 have Ny329 := Aside0.mk hy329
 clear hy329
 have H' := Aside0.mk H
 clear H
 go_enter Tryz.func33, Tryz.ntmps33
 go_wp2_with (first | ((with_reducible refine gate_dst (N := 6) rfl ?_); refine Kd.R_lit Kd.string _ 9 ?hg (N := 6) ?hd (xs := ([] : List ByteArray)) (inner := []) (ok := fun _ => True) (okp := fun _ => True) ?hr ?hp (fun _ hk => hk) trivial (Below.refl _ _) (Nat.le_refl _) (by simp) ?_; (case hd => rfl); (case hg => rfl); (case hr => first | (go_simp; done) | (go_simp; rfl)); (case hp => exact (Reps.none _ _)); intro v330 w2 ho3 hb hg_ hnew_; clear hg_ hnew_; (first | rw [← Ny329.out] at ho3 | (simp only [Int.reduceToNat] at ho3; rw [← Ny329.out] at ho3)); have n0_ := Aside0.mk (Kd.R_lower ho3 (below_size (bw_ HB))); have n1_ := Aside0.mk (below_step (bw_ HB) hb); clear HB; have HO331 := n0_; have HB := n1_; clear n0_ n1_; clear hb ho3))
 go_loopg [3, 9] k (fun kq v3 v9 w' => ∃ (x3_1 : List ByteArray) (x9_1 : Int), v9 = .int .i64 x9_1 ∧ Aside0 (impl_storePaths.l0 kq x3_1 l0 (l0.length : Int) x9_1 = some r) ∧ Aside0 (kq ≤ k) ∧ Aside0 (Kd.R Kd.string 9 w' w.heap.size (fun _ => True) v3 x3_1) ∧ Aside0 (Below w.heap.size w w'))
 case atStart => exact ⟨(y329), (0), (by first | rfl | (simp; done) | (simp [*]; done)), H', ⟨Nat.le_refl _⟩, ⟨by (with_reducible repeat (first | apply Kd.R_alloc | apply Kd.R_drewN | apply Kd.R_drew)); exact HO331.out⟩, ⟨bw_ HB⟩⟩
 case round =>
  clear H'
  try clear p2
  try clear c3
  obtain ⟨x3_1, x9_1, rfl, HA, HK1, HO_3, HB⟩ := hrel
  cases gk with
  | zero => exact absurd HA.out (by simp [impl_storePaths.l0])
  | succ k1 =>
   have H := HA.out
   clear HA
   simp only [impl_storePaths.l0] at H
   by_cases c4 : x9_1 < (l0.length : Int)
   {
   rw [if_pos c4] at H
   have c4b0 : decide (x9_1 < (l0.length : Int)) = true := decide_eq_true c4
   clear c4
   by_cases c5 : 0 ≤ x9_1
   {
   rw [if_pos c5] at H
   have c5b0 : decide (0 ≤ x9_1) = true := decide_eq_true c5
   clear c5
   by_cases c6 : x9_1 < (l0.length : Int)
   {
   rw [if_pos c6] at H
   have c6b0 : decide (x9_1 < (l0.length : Int)) = true := decide_eq_true c6
   clear c6
   by_cases c7 : x3_1.length < 8796093022208
   {
   rw [if_pos c7] at H
   have LMc7 := Aside0.mk c7
   clear c7
   obtain ⟨y334, hy334⟩ : ∃ y_ : List ByteArray, y_ = (x3_1 ++ [(rd_T54 l0 x9_1).f0]) := ⟨_, rfl⟩
   replace H : (impl_storePaths.l0 k1 y334 l0 (l0.length : Int) (wrap64 (x9_1 + 1))) = some r := by first | (rw [hy334]; with_reducible exact H) | (have H2_ := (Option.bind_some _ _).symm.trans H; rw [hy334]; with_reducible exact H2_) | (have H2_ := (Option.bind_some _ _).symm.trans H; with_reducible exact H2_) | with_reducible exact H | (rw [hy334]; exact H) | exact H
   have Ny334 := Aside0.mk hy334
   clear hy334
   have H' := Aside0.mk H
   clear H
   have p332 : 0 ≤ (x9_1 : Int) := dA_
   have q332 : x9_1 < (l0.length : Int) := dA_
   obtain ⟨ad332, A332_2, c332_2, A332_4, c332_4, e332, hx332_0, hx332_1, hx332_2, hx332_3, hx332_4, hl332_2, hi332_2, hl332_4, hi332_4⟩ := at_T54 HR0.out x9_1 p332 q332
   cases e332
   replace hx332_0 := hX_ HB hx332_0
   replace hx332_1 := hX_ HB hx332_1
   replace hx332_2 := hX_ HB hx332_2
   replace hx332_3 := hX_ HB hx332_3
   replace hx332_4 := hX_ HB hx332_4
   have HR332_2 := Aside0.mk hi332_2
   have HC332_2 := Aside0.mk hl332_2
   clear hi332_2 hl332_2
   have HR332_4 := Aside0.mk hi332_4
   have HC332_4 := Aside0.mk hl332_4
   clear hi332_4 hl332_4
   replace p332 := eq_true p332
   replace q332 := eq_true q332
   go_wp2_with (first | ((with_reducible refine gate_dst (N := 5) rfl ?_); refine box_event ?hg (N := 5) ?hd (cs := #[.string (⟨#[]⟩ : ByteArray), .string (⟨#[]⟩ : ByteArray), .slice none 0 0, .string (⟨#[]⟩ : ByteArray), .slice none 0 0]) (t := 54) ?hr ?_; (case hd => rfl); (case hg => rfl); (case hr => first | (go_simp; done) | (go_simp; rfl)); intro gb333 hg w8 hbox hb; have n0_ := Aside0.mk (Kd.R_below (by (with_reducible repeat (first | apply Kd.R_alloc | apply Kd.R_drewN | apply Kd.R_drew)); exact HO_3.out) hb); have n1_ := Aside0.mk (below_step (bw_ HB) hb); have n2_ := Aside0.mk (hbox); have n3_ := Aside0.mk ((by rw [hg]; exact (below_size (bw_ HB)) : w.heap.size ≤ gb333)); have n4_ := Aside0.mk ((by rw [hg]; exact (below_size (bw_ HB)) : w.heap.size ≤ gb333)); clear HO_3; clear HB; have HO_3 := n0_; have HB := n1_; have BK333 := n2_; have GW333 := n3_; have GE333 := n4_; clear n0_ n1_ n2_ n3_ n4_; clear hb hbox hg; have hcz9_0 : w8.cell? ⟨gb333, 0, none⟩ = some (.string (⟨#[]⟩ : ByteArray)) := (blk_cell BK333.out 0).trans rfl; have hcz9_1 : w8.cell? ⟨gb333, 1, none⟩ = some (.string (⟨#[]⟩ : ByteArray)) := (blk_cell BK333.out 1).trans rfl; have hcz9_2 : w8.cell? ⟨gb333, 2, none⟩ = some (.slice none 0 0) := (blk_cell BK333.out 2).trans rfl; have hcz9_3 : w8.cell? ⟨gb333, 3, none⟩ = some (.string (⟨#[]⟩ : ByteArray)) := (blk_cell BK333.out 3).trans rfl; have hcz9_4 : w8.cell? ⟨gb333, 4, none⟩ = some (.slice none 0 0) := (blk_cell BK333.out 4).trans rfl; have hfz9_0 := blk_frozen BK333.out 0; have hfz9_1 := blk_frozen BK333.out 1; have hfz9_2 := blk_frozen BK333.out 2; have hfz9_3 := blk_frozen BK333.out 3; have hfz9_4 := blk_frozen BK333.out 4) | ((with_reducible refine gate_builtin (b := .append) (xs := #[.tmp 13, .tmp 16]) rfl ?_); at_builtin; refine Kd.R_append Kd.string (w0 := w) w.heap.size rfl (.tmp 13) (.tmp 16) 29 9 (.string ⟨#[]⟩) 16 rfl Tryz.underlying29 info9 rfl (by decide) (by omega) u3 x3_1 ((rd_T54 l0 x9_1).f0) [.string ((rd_T54 l0 x9_1).f0)] (fun _ => True) (fun _ => False) rfl (by first | (go_simp; done) | (go_simp; rfl)) ?aP (fun _ hk => hk.elim) ?aF ?aO ?aB ?aS ?aL ?_; (case aP => exact rfl); (case aB => exact (bw1_ HB GE333)); (case aF => exact (fun _ _ => trivial)); (case aO => exact (by (with_reducible repeat (first | apply Kd.R_alloc | apply Kd.R_drewN | apply Kd.R_drew)); exact Kd.R_mono (Kd.R_far (p := ⟨gb333, 4, none⟩) (Kd.R_far (p := ⟨gb333, 3, none⟩) (Kd.R_far (p := ⟨gb333, 2, none⟩) (Kd.R_far (p := ⟨gb333, 1, none⟩) (Kd.R_far (p := ⟨gb333, 0, none⟩) (Kd.R_types HO_3.out BK333.out (by decide)) (fun _ hk => hk.2) (.string ((rd_T54 l0 x9_1).f0))) (fun _ hk => hk.2) (.string ((rd_T54 l0 x9_1).f1))) (fun _ hk => hk.2) (.slice A332_2 ((rd_T54 l0 x9_1).f2).length c332_2)) (fun _ hk => hk.2) (.string ((rd_T54 l0 x9_1).f3))) (fun _ hk => hk.2) (.slice A332_4 ((rd_T54 l0 x9_1).f4).length c332_4)) (fun _ hk => trivial))); (case aS => exact (below_size (bw1_ HB GE333))); (case aL => have := LMc7.out; omega); intro v335 w10 ho hb hg hat; rw [← Ny334.out] at ho; have n0_ := Aside0.mk (blk_grown (g := gb333) (o := .cells #[.string ((rd_T54 l0 x9_1).f0), .string ((rd_T54 l0 x9_1).f1), .slice A332_2 ((rd_T54 l0 x9_1).f2).length c332_2, .string ((rd_T54 l0 x9_1).f3), .slice A332_4 ((rd_T54 l0 x9_1).f4).length c332_4] 54 (0, 0)) (by (with_reducible repeat (first | refine blk_drewN ?_ _ | refine blk_drew ?_ | refine blk_alloc ?_ _)); refine blk_put (cs := #[.string ((rd_T54 l0 x9_1).f0), .string ((rd_T54 l0 x9_1).f1), .slice A332_2 ((rd_T54 l0 x9_1).f2).length c332_2, .string ((rd_T54 l0 x9_1).f3), .slice none 0 0]) ?_ 4 _ rfl; (with_reducible repeat (first | refine blk_drewN ?_ _ | refine blk_drew ?_ | refine blk_alloc ?_ _)); refine blk_put (cs := #[.string ((rd_T54 l0 x9_1).f0), .string ((rd_T54 l0 x9_1).f1), .slice A332_2 ((rd_T54 l0 x9_1).f2).length c332_2, .string (⟨#[]⟩ : ByteArray), .slice none 0 0]) ?_ 3 _ rfl; (with_reducible repeat (first | refine blk_drewN ?_ _ | refine blk_drew ?_ | refine blk_alloc ?_ _)); refine blk_put (cs := #[.string ((rd_T54 l0 x9_1).f0), .string ((rd_T54 l0 x9_1).f1), .slice none 0 0, .string (⟨#[]⟩ : ByteArray), .slice none 0 0]) ?_ 2 _ rfl; (with_reducible repeat (first | refine blk_drewN ?_ _ | refine blk_drew ?_ | refine blk_alloc ?_ _)); refine blk_put (cs := #[.string ((rd_T54 l0 x9_1).f0), .string (⟨#[]⟩ : ByteArray), .slice none 0 0, .string (⟨#[]⟩ : ByteArray), .slice none 0 0]) ?_ 1 _ rfl; (with_reducible repeat (first | refine blk_drewN ?_ _ | refine blk_drew ?_ | refine blk_alloc ?_ _)); refine blk_put (cs := #[.string (⟨#[]⟩ : ByteArray), .string (⟨#[]⟩ : ByteArray), .slice none 0 0, .string (⟨#[]⟩ : ByteArray), .slice none 0 0]) ?_ 0 _ rfl; (with_reducible repeat (first | refine blk_drewN ?_ _ | refine blk_drew ?_ | refine blk_alloc ?_ _)); exact BK333.out) hg (Kd.R_ne HO_3.out BK333.out (by decide))); have n1_ := Aside0.mk (hb); have n2_ := Aside0.mk (ho); clear BK333; clear HB; clear HO_3; have BK333 := n0_; have HB := n1_; have HO336 := n2_; clear n0_ n1_ n2_; clear ho hb hg hat))
   go_roundg k1
   case measure => have := HK1.out; omega
   case rel => exact ⟨(y334), (wrap64 (x9_1 + 1)), (by first | rfl | (simp; done) | (simp [*]; done)), H', ⟨by have := HK1.out; omega⟩, ⟨by (with_reducible repeat (first | apply Kd.R_alloc | apply Kd.R_drewN | apply Kd.R_drew)); exact HO336.out⟩, ⟨bw1_ HB GE333⟩⟩}
   {
   rw [if_neg c7] at H
   exact absurd H (by simp)}}
   {
   rw [if_neg c6] at H
   exact absurd H (by simp)}}
   {
   rw [if_neg c5] at H
   exact absurd H (by simp)}}
   {
   rw [if_neg c4] at H
   have c4b0 : decide (x9_1 < (l0.length : Int)) = false := decide_eq_false c4
   (try (have c4b0' := c4b0; simp only [hl332_4] at c4b0'))
   clear c4
   obtain rfl := Option.some.inj H
   go_wp2
   go_ret
   exact ⟨_, eR_, by (with_reducible repeat (first | apply Kd.R_alloc | apply Kd.R_drewN | apply Kd.R_drew)); exact HO_3.out, bw_ HB⟩
}
def impl_rising_hs.l0 : Nat → List ByteArray → Int → Option (Bool)
 | 0, _, _ => none
 | k + 1, x0, x3 => if x3 < (x0.length : Int) then (if 0 ≤ (wrap64 (x3 - 1)) then (if (wrap64 (x3 - 1)) < (x0.length : Int) then (if 0 ≤ x3 then (if ((Op.bytesLess ((rdOf ByteArray.empty x0 (wrap64 (x3 - 1))).toList) ((rdOf ByteArray.empty x0 x3).toList)) = true) then (impl_rising_hs.l0 k x0 (wrap64 (x3 + 1))) else (some false)) else (none)) else (none)) else (none)) else (some true)
def impl_rising_hs.f (k : Nat) (l0 : List ByteArray) : Option (Bool) := impl_rising_hs.l0 k l0 1
set_option maxHeartbeats 8000000 in
set_option maxRecDepth 100000 in
theorem impl_rising_hs.calls (k : Nat) (A0 : Option Addr) (c0 : Nat) (l0 : List ByteArray) (r : Bool) (w : World) (hr0 : Kd.C Kd.string w A0 l0.length l0) (hc0 : l0.length ≤ c0) (h : impl_rising_hs.f k l0 = some r) :
 Calls Tryz.prog 34 #[.slice A0 l0.length c0] w fun e w' => e = .returned (.bool r) ∧ Drawn0 w w' := by
 have HR0 := Aside0.mk hr0
 have HC0 := Aside0.mk hc0
 clear hr0 hc0
 have H : (impl_rising_hs.l0 k l0 1) = some r := h
 clear h
 have H' := Aside0.mk H
 clear H
 go_enter Tryz.func34, Tryz.ntmps34
 go_wp2
 repeat (go_quiet (fail); try go_wp2)
 go_loopg [3] k (fun kq v3 w' => ∃ (x3_1 : Int), v3 = .int .i64 x3_1 ∧ Aside0 (impl_rising_hs.l0 kq l0 x3_1 = some r) ∧ Aside0 (kq ≤ k) ∧ Drawn0 w w')
 case atStart => exact ⟨(1), (by first | rfl | (simp; done) | (simp [*]; done)), H', ⟨Nat.le_refl _⟩, dR_⟩
 case round =>
  clear H'
  obtain ⟨x3_1, rfl, HA, HK1, ⟨m1, rfl⟩⟩ := hrel
  cases gk with
  | zero => exact absurd HA.out (by simp [impl_rising_hs.l0])
  | succ k1 =>
   have H := HA.out
   clear HA
   simp only [impl_rising_hs.l0] at H
   by_cases c2 : x3_1 < (l0.length : Int)
   {
   rw [if_pos c2] at H
   have c2b0 : decide (x3_1 < (l0.length : Int)) = true := decide_eq_true c2
   clear c2
   obtain ⟨ji3, hji3⟩ : ∃ j_ : Int, (wrap64 (x3_1 - 1)) = j_ := ⟨_, rfl⟩
   replace H : (if 0 ≤ (ji3) then (if (ji3) < (l0.length : Int) then (if 0 ≤ x3_1 then (if ((Op.bytesLess ((rdOf ByteArray.empty l0 (ji3)).toList) ((rdOf ByteArray.empty l0 x3_1).toList)) = true) then (impl_rising_hs.l0 k1 l0 (wrap64 (x3_1 + 1))) else (some false)) else (none)) else (none)) else (none)) = some r := by first | (rw [hji3] at H; exact H) | (simp only [hji3] at H ⊢; exact H)
   have hji3w : (IntKind.i64.wrap (x3_1 - 1)) = ji3 := (i64_w _).trans hji3
   by_cases c4 : 0 ≤ (ji3)
   {
   rw [if_pos c4] at H
   have c4b0 : decide (0 ≤ (ji3)) = true := decide_eq_true c4
   clear c4
   by_cases c5 : (ji3) < (l0.length : Int)
   {
   rw [if_pos c5] at H
   have c5b0 : decide ((ji3) < (l0.length : Int)) = true := decide_eq_true c5
   clear c5
   by_cases c6 : 0 ≤ x3_1
   {
   rw [if_pos c6] at H
   have c6b0 : decide (0 ≤ x3_1) = true := decide_eq_true c6
   clear c6
   by_cases c7 : ((Op.bytesLess ((rdOf ByteArray.empty l0 (ji3)).toList) ((rdOf ByteArray.empty l0 x3_1).toList)) = true)
   {
   rw [if_pos c7] at H
   have c7b0 : (Op.bytesLess ((rdOf ByteArray.empty l0 (ji3)).toList) ((rdOf ByteArray.empty l0 x3_1).toList)) = true := c7
   clear c7
   have H' := Aside0.mk H
   clear H
   have p337 : 0 ≤ ((ji3) : Int) := dA_
   have q337 : (ji3) < (l0.length : Int) := dA_
   obtain ⟨ad337, e337, hx337_0⟩ := Kd.at_string HR0.out (ji3) p337 q337
   cases e337
   replace p337 := eq_true p337
   replace q337 := eq_true q337
   have p338 : 0 ≤ (x3_1 : Int) := dA_
   have q338 : x3_1 < (l0.length : Int) := dA_
   obtain ⟨ad338, e338, hx338_0⟩ := Kd.at_string HR0.out x3_1 p338 q338
   obtain rfl : ad337 = ad338 := (by injection e338)
   replace p338 := eq_true p338
   replace q338 := eq_true q338
   go_wp2
   repeat (go_quiet (fail); try go_wp2)
   go_roundg k1
   case measure => have := HK1.out; omega
   case rel => exact ⟨(wrap64 (x3_1 + 1)), (by first | rfl | (simp; done) | (simp [*]; done)), H', ⟨by have := HK1.out; omega⟩, dR_⟩}
   {
   rw [if_neg c7] at H
   have c7b0 : (Op.bytesLess ((rdOf ByteArray.empty l0 (ji3)).toList) ((rdOf ByteArray.empty l0 x3_1).toList)) = false := by simpa using c7
   clear c7
   obtain rfl := Option.some.inj H
   have p337 : 0 ≤ ((ji3) : Int) := dA_
   have q337 : (ji3) < (l0.length : Int) := dA_
   obtain ⟨ad337, e337, hx337_0⟩ := Kd.at_string HR0.out (ji3) p337 q337
   cases e337
   replace p337 := eq_true p337
   replace q337 := eq_true q337
   have p338 : 0 ≤ (x3_1 : Int) := dA_
   have q338 : x3_1 < (l0.length : Int) := dA_
   obtain ⟨ad338, e338, hx338_0⟩ := Kd.at_string HR0.out x3_1 p338 q338
   obtain rfl : ad337 = ad338 := (by injection e338)
   replace p338 := eq_true p338
   replace q338 := eq_true q338
   go_wp2
   repeat (go_quiet (fail); try go_wp2)
   go_ret
   exact ⟨by first | rfl | (simp; done) | (simp only [← hji3] <;> (first | rfl | simp)) | (simp [*]; done), dR_⟩}}
   {
   rw [if_neg c6] at H
   exact absurd H (by simp)}}
   {
   rw [if_neg c5] at H
   exact absurd H (by simp)}}
   {
   rw [if_neg c4] at H
   exact absurd H (by simp)}}
   {
   rw [if_neg c2] at H
   have c2b0 : decide (x3_1 < (l0.length : Int)) = false := decide_eq_false c2
   clear c2
   obtain rfl := Option.some.inj H
   go_wp2
   repeat (go_quiet (fail); try go_wp2)
   go_ret
   exact ⟨eS_, dR_⟩
}
def impl_letter.f (a0 : Int) : Option (Bool) := if a0 ≥ 97 then (if a0 ≤ 122 then (some true) else (if a0 ≥ 65 then (some (decide (a0 ≤ 90))) else (some false))) else (if a0 ≥ 65 then (some (decide (a0 ≤ 90))) else (some false))
set_option maxHeartbeats 8000000 in
set_option maxRecDepth 100000 in
theorem impl_letter.calls (a0 : Int) (r : Bool) (w : World) (h : impl_letter.f a0 = some r) :
 Calls Tryz.prog 100 #[.int .u8 a0] w fun e w' => e = .returned (.bool r) ∧ Drawn0 w w' := by
 have H : (if a0 ≥ 97 then (if a0 ≤ 122 then (some true) else (if a0 ≥ 65 then (some (decide (a0 ≤ 90))) else (some false))) else (if a0 ≥ 65 then (some (decide (a0 ≤ 90))) else (some false))) = some r := h
 clear h
 by_cases c2 : a0 ≥ 97
 {
 rw [if_pos c2] at H
 have c2b0 : decide (97 ≤ a0) = true := decide_eq_true c2
 clear c2
 by_cases c3 : a0 ≤ 122
 {
 rw [if_pos c3] at H
 have c3b0 : decide (a0 ≤ 122) = true := decide_eq_true c3
 clear c3
 obtain rfl := Option.some.inj H
 go_enter Tryz.func100, Tryz.ntmps100
 go_wp2
 go_ret
 exact ⟨eS_, dR_⟩}
 {
 rw [if_neg c3] at H
 have c3b0 : decide (a0 ≤ 122) = false := decide_eq_false c3
 clear c3
 by_cases c4 : a0 ≥ 65
 {
 rw [if_pos c4] at H
 have c4b0 : decide (65 ≤ a0) = true := decide_eq_true c4
 clear c4
 obtain rfl := Option.some.inj H
 go_enter Tryz.func100, Tryz.ntmps100
 go_wp2
 go_ret
 exact ⟨eS_, dR_⟩}
 {
 rw [if_neg c4] at H
 have c4b0 : decide (65 ≤ a0) = false := decide_eq_false c4
 clear c4
 obtain rfl := Option.some.inj H
 go_enter Tryz.func100, Tryz.ntmps100
 go_wp2
 go_ret
 exact ⟨eS_, dR_⟩}}}
 {
 rw [if_neg c2] at H
 have c2b0 : decide (97 ≤ a0) = false := decide_eq_false c2
 clear c2
 by_cases c5 : a0 ≥ 65
 {
 rw [if_pos c5] at H
 have c5b0 : decide (65 ≤ a0) = true := decide_eq_true c5
 clear c5
 obtain rfl := Option.some.inj H
 go_enter Tryz.func100, Tryz.ntmps100
 go_wp2
 go_ret
 exact ⟨eS_, dR_⟩}
 {
 rw [if_neg c5] at H
 have c5b0 : decide (65 ≤ a0) = false := decide_eq_false c5
 clear c5
 obtain rfl := Option.some.inj H
 go_enter Tryz.func100, Tryz.ntmps100
 go_wp2
 go_ret
 exact ⟨eS_, dR_⟩
}}
def impl_digit.f (a0 : Int) : Option (Bool) := if a0 ≥ 48 then (some (decide (a0 ≤ 57))) else (some false)
set_option maxHeartbeats 8000000 in
set_option maxRecDepth 100000 in
theorem impl_digit.calls (a0 : Int) (r : Bool) (w : World) (h : impl_digit.f a0 = some r) :
 Calls Tryz.prog 101 #[.int .u8 a0] w fun e w' => e = .returned (.bool r) ∧ Drawn0 w w' := by
 have H : (if a0 ≥ 48 then (some (decide (a0 ≤ 57))) else (some false)) = some r := h
 clear h
 by_cases c2 : a0 ≥ 48
 {
 rw [if_pos c2] at H
 have c2b0 : decide (48 ≤ a0) = true := decide_eq_true c2
 clear c2
 obtain rfl := Option.some.inj H
 go_enter Tryz.func101, Tryz.ntmps101
 go_wp2
 go_ret
 exact ⟨eS_, dR_⟩}
 {
 rw [if_neg c2] at H
 have c2b0 : decide (48 ≤ a0) = false := decide_eq_false c2
 clear c2
 obtain rfl := Option.some.inj H
 go_enter Tryz.func101, Tryz.ntmps101
 go_wp2
 go_ret
 exact ⟨eS_, dR_⟩
}
theorem strings_ContainsRune.enc_hi (r : Int) (h0 : 128 ≤ r) (h1 : r ≤ 255) : ∃ x y : UInt8, Utf8.encode r = ⟨#[x, y]⟩ ∧ 128 ≤ y.toNat := by
 obtain ⟨n, rfl⟩ := Int.eq_ofNat_of_zero_le (show 0 ≤ r by omega)
 have hn : n - 128 < 128 := by omega
 have : ∀ k : Fin 128, ∃ x y : UInt8, Utf8.encode ((k.val + 128 : Nat) : Int) = ⟨#[x, y]⟩ ∧ 128 ≤ y.toNat := by
  intro k
  refine ⟨(Utf8.encode ((k.val + 128 : Nat) : Int)).data[0]!, (Utf8.encode ((k.val + 128 : Nat) : Int)).data[1]!, ?_⟩
  revert k
  decide +kernel
 have h := this ⟨n - 128, hn⟩
 rwa [show (n - 128) + 128 = n by omega] at h
set_option maxHeartbeats 2000000 in
set_option maxRecDepth 1000000 in
theorem strings_ContainsRune.index_hi (r : Int) (w : World) (h0 : 128 ≤ r) (h1 : r ≤ 255) :
 Calls Tryz.prog 109 #[.string ⟨#[45, 95, 46, 43]⟩, .int .i32 r] w fun e w' => e = .returned (.int .i64 (-1)) ∧ Drawn0 w w' := by
 have hv : Lib.validRune r = true := by unfold Lib.validRune; simp; omega
 have c1 : decide (r < 128) = false := decide_eq_false (by omega)
 have c2 : (r == 65533) = false := beq_eq_false_iff_ne.2 (by omega)
 obtain ⟨x, y, he, hy⟩ := strings_ContainsRune.enc_hi r h0 h1
 have hy2 : ((95 : Int) != (y.toNat : Int)) = true := by rw [bne_iff_ne]; omega
 have hyb : ((y.toNat : Int)).toNat.toUInt8 = y := by simp
 have hi : Lib.indexByte [46, 43] y = -1 := by
  have a1 : ((46 : UInt8) == y) = false := by rw [beq_eq_false_iff_ne]; rintro rfl; revert hy; decide
  have a2 : ((43 : UInt8) == y) = false := by rw [beq_eq_false_iff_ne]; rintro rfl; revert hy; decide
  simp [Lib.indexByte, a1, a2]
 have hw2 : IntKind.i64.wrap (1 + 1) = 2 := by decide
 have hb1 : ∀ h : 1 < (⟨#[45, 95, 46, 43]⟩ : ByteArray).size, (((⟨#[45, 95, 46, 43]⟩ : ByteArray)[1]'h).toNat : Int) = 95 := fun _ => rfl
 have hb2 : ∀ h : 1 < (⟨#[x, y]⟩ : ByteArray).size, (((⟨#[x, y]⟩ : ByteArray)[1]'h).toNat : Int) = (y.toNat : Int) := fun _ => rfl
 go_enter Tryz.func109, Tryz.ntmps109
 go_wp2_with (go_at_call 127; refine (Tryz.utf8_ValidRune _ _).mono ?_; rintro e w' ⟨rfl, rfl⟩; rw [hv])
 go_step3
 go_wp2
 refine wp_loop_rounds 1 ?_
 rw [rounds_succ]
 go_wp2
 go_step3
 go_wp2
 go_quiet (fail)
 go_wp2
 go_quiet ((go_at_call 103; refine (Tryz.strings_IndexByte _ _ _).mono ?_; rintro e w1 ⟨rfl, hw1⟩; exact ⟨rfl, _, hw1⟩))
 go_wp2
 rw [Exit.noGoto_ret]
 simp only [Exit.inBlock, Exit.then]
 rw [Exit.noGoto_ret]
 go_ret
 exact ⟨rfl, (Drawn0.refl _).step _⟩
theorem strings_ContainsRune.low (k : Fin 128) : decide (0 ≤ Lib.indexByte [45, 95, 46, 43] ((k.val : Int)).toNat.toUInt8) = decide ((k.val : Int) = 45 ∨ (k.val : Int) = 95 ∨ (k.val : Int) = 46 ∨ (k.val : Int) = 43) := by
 revert k
 decide +kernel
def strings_ContainsRune.f (a0 : ByteArray) (a1 : Int) : Option Bool := if a0.data.toList = [45, 95, 46, 43] then (if 0 ≤ a1 then (if a1 ≤ 255 then some (decide (a1 = 45 ∨ a1 = 95 ∨ a1 = 46 ∨ a1 = 43)) else none) else none) else none
set_option maxHeartbeats 2000000 in
set_option maxRecDepth 1000000 in
theorem strings_ContainsRune.calls (a0 : ByteArray) (a1 : Int) (r : Bool) (w : World) (h : strings_ContainsRune.f a0 a1 = some r) :
 Calls Tryz.prog 102 #[.string a0, .int .i32 a1] w fun e w' => e = .returned (.bool r) ∧ Drawn0 w w' := by
 unfold strings_ContainsRune.f at h
 split at h
 {
 rename_i hs
 obtain rfl : a0 = ⟨#[45, 95, 46, 43]⟩ := by
  cases a0 with
  | mk d => exact congrArg ByteArray.mk (Array.toList_inj.1 hs)
 split at h
 {
 rename_i h0
 split at h
 {
 rename_i h1
 obtain rfl := Option.some.inj h
 by_cases hl : a1 < 128
 {
 obtain ⟨n, rfl⟩ := Int.eq_ofNat_of_zero_le h0
 have hk := strings_ContainsRune.low ⟨n, by omega⟩
 refine (Tryz.strings_ContainsRune_ascii _ (n : Int) w h0 hl).mono fun e w' ⟨he, hw⟩ => ⟨?_, hw ▸ Drawn0.refl _⟩
 rw [he]
 exact congrArg (fun b => Ending.returned (.bool b)) hk}
 {
 rw [decide_eq_false (show ¬ (a1 = 45 ∨ a1 = 95 ∨ a1 = 46 ∨ a1 = 43) by omega)]
 go_enter Tryz.func102, Tryz.ntmps102
 go_wp2_with (go_at_call 109; refine (strings_ContainsRune.index_hi a1 _ (by omega) h1).mono ?_; rintro e w' ⟨rfl, ⟨nd, rfl⟩⟩)
 go_ret
 exact ⟨rfl, dR_⟩}}
 {
 cases h}}
 {
 cases h}}
 {
 cases h
}
end Go.Proofs.YtkhhkpjeafknpaaGreatDoor.P
end

section
namespace Go.Proofs.YtkhhkpjeafknpaaGreatDoor.P
open Go.RowKit Go.Proofs.YtkhhkpjeafknpaaGreatDoorW.PrintWords Go.Proofs.YtkhhkpjeafknpaaGreatDoorW.PrintLast Go.Proofs.YtkhhkpjeafknpaaGreatDoorW.PrintMore Go.Proofs.YtkhhkpjeafknpaaGreatDoorM
attribute [local go_sem] max2_int min2_int max_two min_two max_three min_three max_four min_four
set_option linter.unusedVariables false
set_option linter.unusedSimpArgs false
mutual
def impl_NameOk.j0 : Nat → ByteArray → Bool → Option (Bool)
 | 0, _, _ => none
 | k + 1, x0, x17 => if x17 = true then (some false) else (impl_NameOk.l0 k x0 (x0.size : Int) 0)
def impl_NameOk.l0 : Nat → ByteArray → Int → Int → Option (Bool)
 | 0, _, _, _ => none
 | k + 1, x0, x19, x20 => if x20 < x19 then (if 0 ≤ x20 then (if x20 < (x0.size : Int) then ((impl_letter.f (bt x0 x20)).bind fun t339 => (if t339 = true then (impl_NameOk.l0 k x0 x19 (wrap64 (x20 + 1))) else ((impl_digit.f (bt x0 x20)).bind fun t340 => (if t340 = true then (impl_NameOk.l0 k x0 x19 (wrap64 (x20 + 1))) else ((strings_ContainsRune.f (⟨#[45, 95, 46, 43]⟩ : ByteArray) (wrap32 (bt x0 x20))).bind fun t341 => (if t341 = true then (impl_NameOk.l0 k x0 x19 (wrap64 (x20 + 1))) else (some false))))))) else (none)) else (none)) else (some true)
end
def impl_NameOk.f (k : Nat) (a0 : ByteArray) : Option (Bool) := if (a0.size : Int) < 1 then (impl_NameOk.j0 k a0 true) else (if (a0.size : Int) > 60 then (impl_NameOk.j0 k a0 true) else (if 0 < (a0.size : Int) then (impl_NameOk.j0 k a0 ((bt a0 0) == 46)) else (none)))
theorem impl_NameOk.mono_l : ∀ k, (∀ y0 y1, LeO (impl_NameOk.j0 k y0 y1) (impl_NameOk.j0 (k + 1) y0 y1)) ∧ (∀ y0 y1 y2, LeO (impl_NameOk.l0 k y0 y1 y2) (impl_NameOk.l0 (k + 1) y0 y1 y2))
 | 0 => ⟨fun _ _ r h => by simp [impl_NameOk.j0] at h, fun _ _ _ r h => by simp [impl_NameOk.l0] at h⟩
 | k + 1 => by
  obtain ⟨ih0, ih1⟩ := impl_NameOk.mono_l k
  refine ⟨?_, ?_⟩
  {
  intro y0 y1
  unfold impl_NameOk.j0
  repeat' first
  | (with_reducible exact ih0 _ _)
  | (with_reducible exact ih1 _ _ _)
  | (with_reducible exact LeO.refl _)
  | (with_reducible exact LeO.none _)
  | (with_reducible refine LeO.ite ?_ ?_)
  | (with_reducible refine LeO.bind ?_ (fun _ => ?_))
  | exact ih0 _ _
  | exact ih1 _ _ _
  | exact LeO.none _
  | refine LeO.ite ?_ ?_
  | refine LeO.bind ?_ (fun _ => ?_)}
  {
  intro y0 y1 y2
  unfold impl_NameOk.l0
  repeat' first
  | (with_reducible exact ih0 _ _)
  | (with_reducible exact ih1 _ _ _)
  | (with_reducible exact LeO.refl _)
  | (with_reducible exact LeO.none _)
  | (with_reducible refine LeO.ite ?_ ?_)
  | (with_reducible refine LeO.bind ?_ (fun _ => ?_))
  | exact ih0 _ _
  | exact ih1 _ _ _
  | exact LeO.none _
  | refine LeO.ite ?_ ?_
  | refine LeO.bind ?_ (fun _ => ?_)}
theorem impl_NameOk.mono : ∀ a0 k, LeO (impl_NameOk.f k a0) (impl_NameOk.f (k + 1) a0) := by
 intro a0 k
 obtain ⟨ih0, ih1⟩ := impl_NameOk.mono_l k
 unfold impl_NameOk.f
 repeat' first
  | (with_reducible exact ih0 _ _)
  | (with_reducible exact ih1 _ _ _)
  | (with_reducible exact LeO.refl _)
  | (with_reducible exact LeO.none _)
  | (with_reducible refine LeO.ite ?_ ?_)
  | (with_reducible refine LeO.bind ?_ (fun _ => ?_))
  | exact ih0 _ _
  | exact ih1 _ _ _
  | exact LeO.none _
  | refine LeO.ite ?_ ?_
  | refine LeO.bind ?_ (fun _ => ?_)
set_option maxHeartbeats 8000000 in
set_option maxRecDepth 100000 in
theorem impl_NameOk.calls (k : Nat) (a0 : ByteArray) (r : Bool) (w : World) (h : impl_NameOk.f k a0 = some r) :
 Calls Tryz.prog 85 #[.string a0] w fun e w' => e = .returned (.bool r) ∧ Drawn0 w w' := by
 have H : (if (a0.size : Int) < 1 then (impl_NameOk.j0 k a0 true) else (if (a0.size : Int) > 60 then (impl_NameOk.j0 k a0 true) else (if 0 < (a0.size : Int) then (impl_NameOk.j0 k a0 ((bt a0 0) == 46)) else (none)))) = some r := h
 clear h
 have HC2 := Aside0.mk H
 clear H
 go_enter Tryz.func85, Tryz.ntmps85
 go_upto_region 1 with (fail)
 go_cut [17] (fun v17 wc => ∃ (kq : Nat) (x17_1 : Bool), v17 = .bool x17_1 ∧ Aside0 (impl_NameOk.j0 kq a0 x17_1 = some r) ∧ Aside0 (kq ≤ k) ∧ Drawn0 w wc)
 case first =>
  have H := HC2.out
  clear HC2
  by_cases c3 : (a0.size : Int) < 1
  {
  rw [if_pos c3] at H
  have c3b0 : decide ((a0.size : Int) < 1) = true := decide_eq_true c3
  have c3b1 : decide (a0.size < 1) = true := decide_eq_true (by omega)
  clear c3
  (first | rw [c3b0] | (simp only [i64_w, i32_w]; rw [c3b0]) | skip)
  have H' := Aside0.mk H
  clear H
  go_wp2
  go_meet
  case rel => exact ⟨_, (true), (by first | rfl | (simp; done) | (simp [*]; done)), H', ⟨by first | omega | exact Nat.le_refl _⟩, dR_⟩}
  {
  rw [if_neg c3] at H
  have c3b0 : decide ((a0.size : Int) < 1) = false := decide_eq_false c3
  have c3b1 : decide (a0.size < 1) = false := decide_eq_false (by omega)
  clear c3
  (first | rw [c3b0] | (simp only [i64_w, i32_w]; rw [c3b0]) | skip)
  by_cases c4 : (a0.size : Int) > 60
  {
  rw [if_pos c4] at H
  have c4b0 : decide (60 < (a0.size : Int)) = true := decide_eq_true c4
  have c4b1 : decide (60 < a0.size) = true := decide_eq_true (by omega)
  clear c4
  have H' := Aside0.mk H
  clear H
  go_wp2
  go_meet
  case rel => exact ⟨_, (true), (by first | rfl | (simp; done) | (simp [*]; done)), H', ⟨by first | omega | exact Nat.le_refl _⟩, dR_⟩}
  {
  rw [if_neg c4] at H
  have c4b0 : decide (60 < (a0.size : Int)) = false := decide_eq_false c4
  have c4b1 : decide (60 < a0.size) = false := decide_eq_false (by omega)
  clear c4
  by_cases c5 : 0 < (a0.size : Int)
  {
  rw [if_pos c5] at H
  have c5b0 : decide (0 < (a0.size : Int)) = true := decide_eq_true c5
  have c5b1 : decide (0 < a0.size) = true := decide_eq_true (by omega)
  clear c5
  have H' := Aside0.mk H
  clear H
  have p6 : 0 ≤ (0 : Int) := (by omega)
  have q6 : 0 < a0.size := (by have : (0 : Int) < (a0.size : Int) := dA_; omega)
  have hx6 : ∀ h : 0 < a0.size, ((a0[0]'h).toNat : Int) = bt a0 0 := bt_at a0 0
  clear p6
  have qi6 : (0 < (a0.size : Int)) = True := eq_true (dA_)
  replace q6 := eq_true q6
  go_wp2
  go_meet
  case rel => exact ⟨_, (((bt a0 0) == 46)), (by first | rfl | (simp; done) | (simp [*]; done)), H', ⟨by first | omega | exact Nat.le_refl _⟩, dR_⟩}
  {
  rw [if_neg c5] at H
  exact absurd H (by simp)}}}
 case rest =>
  clear HC2
  try clear p2
  try clear c3
  try clear c3b0
  try clear c3b1
  try clear c4
  try clear c4b0
  try clear c4b1
  try clear c5
  try clear c5b0
  try clear c5b1
  try clear p6
  try clear q6
  try clear hx6
  try clear qi6
  try clear p6
  try clear q6
  obtain ⟨kq, x17_1, rfl, HA, HJ1, ⟨mc1, rfl⟩⟩ := hcut
  cases kq with
  | zero => exact absurd HA.out (by simp [impl_NameOk.j0])
  | succ kj1 =>
   have H := HA.out
   clear HA
   simp only [impl_NameOk.j0] at H
   by_cases c7 : x17_1 = true
   {
   subst c7
   rw [if_pos rfl] at H
   obtain rfl := Option.some.inj H
   go_wp2
   go_ret
   exact ⟨eS_, dR_⟩}
   {
   replace c7 := Bool.eq_false_iff.mpr c7
   subst c7
   rw [if_neg (show ¬ (false = true) by decide)] at H
   have H' := Aside0.mk H
   clear H
   go_wp2
   go_loopg [20] kj1 (fun kq v20 w' => ∃ (x20_2 : Int), v20 = .int .i64 x20_2 ∧ Aside0 (impl_NameOk.l0 kq a0 (a0.size : Int) x20_2 = some r) ∧ Aside0 (kq ≤ kj1) ∧ Drawn0 w w')
   case atStart => exact ⟨(0), (by first | rfl | (simp; done) | (simp [*]; done)), H', ⟨Nat.le_refl _⟩, dR_⟩
   case round =>
    clear H'
    try clear c1
    try clear p2
    try clear c3
    try clear c3b0
    try clear c3b1
    try clear c4
    try clear c4b0
    try clear c4b1
    try clear c5
    try clear c5b0
    try clear c5b1
    try clear p6
    try clear q6
    try clear hx6
    try clear qi6
    try clear c7
    try clear p2
    try clear p6
    try clear q6
    obtain ⟨x20_2, rfl, HA, HK2, ⟨m2, rfl⟩⟩ := hrel
    cases gk with
    | zero => exact absurd HA.out (by simp [impl_NameOk.l0])
    | succ k2 =>
     have H := HA.out
     clear HA
     simp only [impl_NameOk.l0] at H
     by_cases c8 : x20_2 < (a0.size : Int)
     {
     rw [if_pos c8] at H
     have c8b0 : decide (x20_2 < (a0.size : Int)) = true := decide_eq_true c8
     clear c8
     by_cases c9 : 0 ≤ x20_2
     {
     rw [if_pos c9] at H
     have c9b0 : decide (0 ≤ x20_2) = true := decide_eq_true c9
     clear c9
     by_cases c10 : x20_2 < (a0.size : Int)
     {
     rw [if_pos c10] at H
     have c10b0 : decide (x20_2 < (a0.size : Int)) = true := decide_eq_true c10
     clear c10
     replace H := Option.bind_eq_some_iff.mp H
     obtain ⟨t339, A120, H⟩ := H
     have A12 := Aside0.mk A120
     clear A120
     by_cases c13 : t339 = true
     {
     subst c13
     rw [if_pos rfl] at H
     have H' := Aside0.mk H
     clear H
     have p11 : 0 ≤ (x20_2 : Int) := dA_
     have q11 : x20_2 < (a0.size : Int) := dA_
     have hx11 := bt_at a0 x20_2
     replace p11 := eq_true p11
     replace q11 := eq_true q11
     go_wp2_with (first | ((with_reducible refine gate_callee (f := 100) rfl ?_); refine gL_ (some 27) Tryz.func100 #[.int .u8 (bt a0 x20_2)] ?_; (with_reducible refine (impl_letter.calls (bt a0 x20_2) true _ A12.out).mono ?_); rintro e w' ⟨rfl, ⟨nd, rfl⟩⟩; refine ⟨_, rfl, ?_⟩))
     go_roundg k2
     case measure => have := HJ1.out; have := HK2.out; omega
     case rel => exact ⟨(wrap64 (x20_2 + 1)), (by first | rfl | (simp; done) | (simp [*]; done)), H', ⟨by have := HJ1.out; have := HK2.out; omega⟩, dR_⟩}
     {
     replace c13 := Bool.eq_false_iff.mpr c13
     subst c13
     rw [if_neg (show ¬ (false = true) by decide)] at H
     replace H := Option.bind_eq_some_iff.mp H
     obtain ⟨t340, A140, H⟩ := H
     have A14 := Aside0.mk A140
     clear A140
     by_cases c15 : t340 = true
     {
     subst c15
     rw [if_pos rfl] at H
     have H' := Aside0.mk H
     clear H
     have p11 : 0 ≤ (x20_2 : Int) := dA_
     have q11 : x20_2 < (a0.size : Int) := dA_
     have hx11 := bt_at a0 x20_2
     replace p11 := eq_true p11
     replace q11 := eq_true q11
     go_wp2_with (first | ((with_reducible refine gate_callee (f := 100) rfl ?_); refine gL_ (some 27) Tryz.func100 #[.int .u8 (bt a0 x20_2)] ?_; (with_reducible refine (impl_letter.calls (bt a0 x20_2) false _ A12.out).mono ?_); rintro e w' ⟨rfl, ⟨nd, rfl⟩⟩; refine ⟨_, rfl, ?_⟩) | (go_at_call 101; (with_reducible refine (impl_digit.calls (bt a0 x20_2) true _ A14.out).mono ?_); rintro e w' ⟨rfl, ⟨nd, rfl⟩⟩))
     go_roundg k2
     case measure => have := HJ1.out; have := HK2.out; omega
     case rel => exact ⟨(wrap64 (x20_2 + 1)), (by first | rfl | (simp; done) | (simp [*]; done)), H', ⟨by have := HJ1.out; have := HK2.out; omega⟩, dR_⟩}
     {
     replace c15 := Bool.eq_false_iff.mpr c15
     subst c15
     rw [if_neg (show ¬ (false = true) by decide)] at H
     replace H := Option.bind_eq_some_iff.mp H
     obtain ⟨t341, A160, H⟩ := H
     have A16 := Aside0.mk A160
     clear A160
     by_cases c17 : t341 = true
     {
     subst c17
     rw [if_pos rfl] at H
     have H' := Aside0.mk H
     clear H
     have p11 : 0 ≤ (x20_2 : Int) := dA_
     have q11 : x20_2 < (a0.size : Int) := dA_
     have hx11 := bt_at a0 x20_2
     replace p11 := eq_true p11
     replace q11 := eq_true q11
     go_wp2_with (first | ((with_reducible refine gate_callee (f := 100) rfl ?_); refine gL_ (some 27) Tryz.func100 #[.int .u8 (bt a0 x20_2)] ?_; (with_reducible refine (impl_letter.calls (bt a0 x20_2) false _ A12.out).mono ?_); rintro e w' ⟨rfl, ⟨nd, rfl⟩⟩; refine ⟨_, rfl, ?_⟩) | (go_at_call 101; (with_reducible refine (impl_digit.calls (bt a0 x20_2) false _ A14.out).mono ?_); rintro e w' ⟨rfl, ⟨nd, rfl⟩⟩) | (go_at_call 102; (with_reducible refine (strings_ContainsRune.calls (⟨#[45, 95, 46, 43]⟩ : ByteArray) (wrap32 (bt a0 x20_2)) true _ A16.out).mono ?_); rintro e w' ⟨rfl, ⟨nd, rfl⟩⟩))
     go_roundg k2
     case measure => have := HJ1.out; have := HK2.out; omega
     case rel => exact ⟨(wrap64 (x20_2 + 1)), (by first | rfl | (simp; done) | (simp [*]; done)), H', ⟨by have := HJ1.out; have := HK2.out; omega⟩, dR_⟩}
     {
     replace c17 := Bool.eq_false_iff.mpr c17
     subst c17
     rw [if_neg (show ¬ (false = true) by decide)] at H
     obtain rfl := Option.some.inj H
     have p11 : 0 ≤ (x20_2 : Int) := dA_
     have q11 : x20_2 < (a0.size : Int) := dA_
     have hx11 := bt_at a0 x20_2
     replace p11 := eq_true p11
     replace q11 := eq_true q11
     go_wp2_with (first | ((with_reducible refine gate_callee (f := 100) rfl ?_); refine gL_ (some 27) Tryz.func100 #[.int .u8 (bt a0 x20_2)] ?_; (with_reducible refine (impl_letter.calls (bt a0 x20_2) false _ A12.out).mono ?_); rintro e w' ⟨rfl, ⟨nd, rfl⟩⟩; refine ⟨_, rfl, ?_⟩) | (go_at_call 101; (with_reducible refine (impl_digit.calls (bt a0 x20_2) false _ A14.out).mono ?_); rintro e w' ⟨rfl, ⟨nd, rfl⟩⟩) | (go_at_call 102; (with_reducible refine (strings_ContainsRune.calls (⟨#[45, 95, 46, 43]⟩ : ByteArray) (wrap32 (bt a0 x20_2)) false _ A16.out).mono ?_); rintro e w' ⟨rfl, ⟨nd, rfl⟩⟩))
     go_ret
     exact ⟨eS_, dR_⟩}}}}
     {
     rw [if_neg c10] at H
     exact absurd H (by simp)}}
     {
     rw [if_neg c9] at H
     exact absurd H (by simp)}}
     {
     rw [if_neg c8] at H
     have c8b0 : decide (x20_2 < (a0.size : Int)) = false := decide_eq_false c8
     clear c8
     obtain rfl := Option.some.inj H
     go_wp2
     go_ret
     exact ⟨eS_, dR_⟩
}}
def strings_Split.f (a0 a1 : ByteArray) : Option (List ByteArray) := if a0.size < 4294967281 then (if 1 ≤ a1.size then some (Lib.splitB a1 0 (Lib.countB a0 a1) a0) else none) else none
theorem strings_Split.calls (a0 a1 : ByteArray) (r : List ByteArray) (w : World) (hE : EnvW w) (h : strings_Split.f a0 a1 = some r) :
 Calls Tryz.prog 104 #[.string a0, .string a1] w fun e w' => ∃ v0_ : Value, e = .returned (v0_) ∧ Kd.R Kd.string 9 w' w.heap.size (fun _ => True) v0_ r ∧ Below w.heap.size w w' := by
 unfold strings_Split.f at h
 split at h
 {
 rename_i hs
 split at h
 {
 rename_i h1
 obtain rfl := Option.some.inj h
 obtain ⟨m, hm⟩ := hE.out
 refine (Tryz.strings_Split a0 a1 m w hs hm h1).mono fun e w' ⟨he, hw⟩ => ⟨_, he, ?_, ?_⟩
 {
 rw [hw]
 exact R_texts w 9 _ _ (splitB_length a1 h1 _ a0 rfl) (splitB_le a1 a0 h1 hs)}
 {
 rw [hw]
 exact below_alloc (Below.refl _ _) _}}
 {
 cases h}}
 {
 cases h
}
def impl_pathOk.l0 : Nat → List ByteArray → Int → Int → Option (Bool)
 | 0, _, _, _ => none
 | k + 1, x11, x12, x13 => if x13 < x12 then (if 0 ≤ x13 then (if x13 < (x11.length : Int) then ((impl_NameOk.f k (rdOf ByteArray.empty x11 x13)).bind fun t346 => (if t346 = true then (impl_pathOk.l0 k x11 x12 (wrap64 (x13 + 1))) else (some false))) else (none)) else (none)) else (some true)
def impl_pathOk.f (k : Nat) (a0 : ByteArray) : Option (Bool) := (strings_Split.f a0 (⟨#[47]⟩ : ByteArray)).bind fun t342 => (if (t342.length : Int) > 8 then (some false) else (impl_pathOk.l0 k t342 (t342.length : Int) 0))
theorem impl_pathOk.mono_l : ∀ k, (∀ y0 y1 y2, LeO (impl_pathOk.l0 k y0 y1 y2) (impl_pathOk.l0 (k + 1) y0 y1 y2))
 | 0 => fun _ _ _ r h => by simp [impl_pathOk.l0] at h
 | k + 1 => by
  have ih0 := impl_pathOk.mono_l k
  {
  intro y0 y1 y2
  unfold impl_pathOk.l0
  repeat' first
  | (with_reducible exact ih0 _ _ _)
  | (with_reducible exact impl_NameOk.mono _ _)
  | (with_reducible exact LeO.refl _)
  | (with_reducible exact LeO.none _)
  | (with_reducible refine LeO.ite ?_ ?_)
  | (with_reducible refine LeO.bind ?_ (fun _ => ?_))
  | exact ih0 _ _ _
  | exact impl_NameOk.mono _ _
  | exact LeO.none _
  | refine LeO.ite ?_ ?_
  | refine LeO.bind ?_ (fun _ => ?_)}
theorem impl_pathOk.mono : ∀ a0 k, LeO (impl_pathOk.f k a0) (impl_pathOk.f (k + 1) a0) := by
 intro a0 k
 have ih0 := impl_pathOk.mono_l k
 unfold impl_pathOk.f
 repeat' first
  | (with_reducible exact ih0 _ _ _)
  | (with_reducible exact impl_NameOk.mono _ _)
  | (with_reducible exact LeO.refl _)
  | (with_reducible exact LeO.none _)
  | (with_reducible refine LeO.ite ?_ ?_)
  | (with_reducible refine LeO.bind ?_ (fun _ => ?_))
  | exact ih0 _ _ _
  | exact impl_NameOk.mono _ _
  | exact LeO.none _
  | refine LeO.ite ?_ ?_
  | refine LeO.bind ?_ (fun _ => ?_)
set_option maxHeartbeats 8000000 in
set_option maxRecDepth 100000 in
theorem impl_pathOk.calls (k : Nat) (a0 : ByteArray) (r : Bool) (w : World) (hE : EnvW w) (h : impl_pathOk.f k a0 = some r) :
 Calls Tryz.prog 87 #[.string a0] w fun e w' => e = .returned (.bool r) ∧ Below w.heap.size w w' := by
 have HE := Aside0.mk hE
 clear hE
 have HB := Aside0.mk (Below.refl w.heap.size w)
 have H : ((strings_Split.f a0 (⟨#[47]⟩ : ByteArray)).bind fun t342 => (if (t342.length : Int) > 8 then (some false) else (impl_pathOk.l0 k t342 (t342.length : Int) 0))) = some r := h
 clear h
 replace H := Option.bind_eq_some_iff.mp H
 obtain ⟨t342, A20, H⟩ := H
 have A2 := Aside0.mk A20
 clear A20
 by_cases c3 : (t342.length : Int) > 8
 {
 rw [if_pos c3] at H
 have c3b0 : decide (8 < (t342.length : Int)) = true := decide_eq_true c3
 have c3b1 : decide (8 < t342.length) = true := decide_eq_true (by omega)
 clear c3
 obtain rfl := Option.some.inj H
 go_enter Tryz.func87, Tryz.ntmps87
 go_wp2_with (first | ((with_reducible refine gate_callee (f := 104) rfl ?_); refine gL_ (some 7) Tryz.func104 #[.string a0, .string (⟨#[47]⟩ : ByteArray)] ?_; (with_reducible refine (strings_Split.calls a0 (⟨#[47]⟩ : ByteArray) t342 _ ?side1 A2.out).mono ?_); (case side1 => refine EnvW.below HE.out ?_; repeat (first | (with_reducible first | exact HB.out | apply below_alloc | apply pw_below_drewN | apply below_drew1) | exact HB.out)); rintro e w4 ⟨v343, rfl, ho0, hb⟩; refine ⟨_, rfl, ?_⟩; have n0_ := Aside0.mk (Kd.R_lower ho0 (below_size (bw_ HB))); have n1_ := Aside0.mk (below_step (bw_ HB) hb); clear HB; have HO344 := n0_; have HB := n1_; clear n0_ n1_; (try clear hb); (try clear hb2); (try clear hk); (try clear hi); (try clear ho0); obtain ⟨Ao5, co5, eo5⟩ := Kd.R_slice HO344.out; subst eo5))
 go_ret
 exact ⟨eR_, bw_ HB⟩}
 {
 rw [if_neg c3] at H
 have c3b0 : decide (8 < (t342.length : Int)) = false := decide_eq_false c3
 have c3b1 : decide (8 < t342.length) = false := decide_eq_false (by omega)
 clear c3
 have H' := Aside0.mk H
 clear H
 go_enter Tryz.func87, Tryz.ntmps87
 go_wp2_with (first | ((with_reducible refine gate_callee (f := 104) rfl ?_); refine gL_ (some 7) Tryz.func104 #[.string a0, .string (⟨#[47]⟩ : ByteArray)] ?_; (with_reducible refine (strings_Split.calls a0 (⟨#[47]⟩ : ByteArray) t342 _ ?side1 A2.out).mono ?_); (case side1 => refine EnvW.below HE.out ?_; repeat (first | (with_reducible first | exact HB.out | apply below_alloc | apply pw_below_drewN | apply below_drew1) | exact HB.out)); rintro e w6 ⟨v343, rfl, ho0, hb⟩; refine ⟨_, rfl, ?_⟩; have n0_ := Aside0.mk (Kd.R_lower ho0 (below_size (bw_ HB))); have n1_ := Aside0.mk (below_step (bw_ HB) hb); clear HB; have HO344 := n0_; have HB := n1_; clear n0_ n1_; (try clear hb); (try clear hb2); (try clear hk); (try clear hi); (try clear ho0); obtain ⟨Ao7, co7, eo7⟩ := Kd.R_slice HO344.out; subst eo7))
 go_loopg [13] k (fun kq v13 w' => ∃ (x13_1 : Int), v13 = .int .i64 x13_1 ∧ Aside0 (impl_pathOk.l0 kq t342 (t342.length : Int) x13_1 = some r) ∧ Aside0 (kq ≤ k) ∧ Aside0 (Kd.R Kd.string 9 w' w.heap.size (fun _ => True) (.slice Ao7 t342.length co7) t342) ∧ Aside0 (Below w.heap.size w w'))
 case atStart => exact ⟨(0), (by first | rfl | (simp; done) | (simp [*]; done)), H', ⟨Nat.le_refl _⟩, ⟨by (with_reducible repeat (first | apply Kd.R_alloc | apply Kd.R_drewN | apply Kd.R_drew)); exact HO344.out⟩, ⟨bw_ HB⟩⟩
 case round =>
  clear H'
  try clear c1
  try clear p2
  try clear c3
  try clear c3b0
  try clear c3b1
  obtain ⟨x13_1, rfl, HA, HK1, HO_11, HB⟩ := hrel
  cases gk with
  | zero => exact absurd HA.out (by simp [impl_pathOk.l0])
  | succ k1 =>
   have H := HA.out
   clear HA
   simp only [impl_pathOk.l0] at H
   by_cases c8 : x13_1 < (t342.length : Int)
   {
   rw [if_pos c8] at H
   have c8b0 : decide (x13_1 < (t342.length : Int)) = true := decide_eq_true c8
   clear c8
   by_cases c9 : 0 ≤ x13_1
   {
   rw [if_pos c9] at H
   have c9b0 : decide (0 ≤ x13_1) = true := decide_eq_true c9
   clear c9
   by_cases c10 : x13_1 < (t342.length : Int)
   {
   rw [if_pos c10] at H
   have c10b0 : decide (x13_1 < (t342.length : Int)) = true := decide_eq_true c10
   clear c10
   replace H := Option.bind_eq_some_iff.mp H
   obtain ⟨t346, A110, H⟩ := H
   have A11 := Aside0.mk A110
   clear A110
   by_cases c12 : t346 = true
   {
   subst c12
   rw [if_pos rfl] at H
   have H' := Aside0.mk H
   clear H
   have p345 : 0 ≤ (x13_1 : Int) := dA_
   have q345 : x13_1 < (t342.length : Int) := dA_
   obtain ⟨ad345, e345, hx345_0⟩ := Kd.at_string (Kd.R_reads' HO_11.out).2.2 x13_1 p345 q345
   cases e345
   replace p345 := eq_true p345
   replace q345 := eq_true q345
   go_wp2_with (first | ((with_reducible refine gate_callee (f := 85) rfl ?_); refine gL_ (some 18) Tryz.func85 #[.string (rdOf ByteArray.empty t342 x13_1)] ?_; (with_reducible refine (impl_NameOk.calls k1 (rdOf ByteArray.empty t342 x13_1) true _ A11.out).mono ?_); rintro e w' ⟨rfl, ⟨nd, rfl⟩⟩; refine ⟨_, rfl, ?_⟩))
   go_roundg k1
   case measure => have := HK1.out; omega
   case rel => exact ⟨(wrap64 (x13_1 + 1)), (by first | rfl | (simp; done) | (simp [*]; done)), H', ⟨by have := HK1.out; omega⟩, ⟨by (with_reducible repeat (first | apply Kd.R_alloc | apply Kd.R_drewN | apply Kd.R_drew)); exact HO_11.out⟩, ⟨bw_ HB⟩⟩}
   {
   replace c12 := Bool.eq_false_iff.mpr c12
   subst c12
   rw [if_neg (show ¬ (false = true) by decide)] at H
   obtain rfl := Option.some.inj H
   have p345 : 0 ≤ (x13_1 : Int) := dA_
   have q345 : x13_1 < (t342.length : Int) := dA_
   obtain ⟨ad345, e345, hx345_0⟩ := Kd.at_string (Kd.R_reads' HO_11.out).2.2 x13_1 p345 q345
   cases e345
   replace p345 := eq_true p345
   replace q345 := eq_true q345
   go_wp2_with (first | ((with_reducible refine gate_callee (f := 85) rfl ?_); refine gL_ (some 18) Tryz.func85 #[.string (rdOf ByteArray.empty t342 x13_1)] ?_; (with_reducible refine (impl_NameOk.calls k1 (rdOf ByteArray.empty t342 x13_1) false _ A11.out).mono ?_); rintro e w' ⟨rfl, ⟨nd, rfl⟩⟩; refine ⟨_, rfl, ?_⟩))
   go_ret
   exact ⟨eR_, bw_ HB⟩}}
   {
   rw [if_neg c10] at H
   exact absurd H (by simp)}}
   {
   rw [if_neg c9] at H
   exact absurd H (by simp)}}
   {
   rw [if_neg c8] at H
   have c8b0 : decide (x13_1 < (t342.length : Int)) = false := decide_eq_false c8
   clear c8
   obtain rfl := Option.some.inj H
   go_wp2
   go_ret
   exact ⟨eR_, bw_ HB⟩
}}
def strings_LastIndexByte.f (a0 : ByteArray) (a1 : Int) : Option Int := if a0.size < 4611686018427387904 then some (Lib.lastIndexByte a0 a1) else none
theorem strings_LastIndexByte.calls (a0 : ByteArray) (a1 : Int) (r : Int) (w : World) (h : strings_LastIndexByte.f a0 a1 = some r) :
 Calls Tryz.prog 105 #[.string a0, .int .u8 a1] w fun e w' => e = .returned (.int .i64 r) ∧ Drawn0 w w' := by
 unfold strings_LastIndexByte.f at h
 split at h
 {
 rename_i hs
 obtain rfl := Option.some.inj h
 exact (Tryz.strings_LastIndexByte a0 a1 hs w).mono fun e w' ⟨he, hw⟩ => ⟨he, hw ▸ Drawn0.refl _⟩}
 {
 cases h
}
end Go.Proofs.YtkhhkpjeafknpaaGreatDoor.P
end

section
namespace Go.Proofs.YtkhhkpjeafknpaaGreatDoor.P
open Go.RowKit Go.Proofs.YtkhhkpjeafknpaaGreatDoorW.PrintWords Go.Proofs.YtkhhkpjeafknpaaGreatDoorW.PrintLast Go.Proofs.YtkhhkpjeafknpaaGreatDoorW.PrintMore Go.Proofs.YtkhhkpjeafknpaaGreatDoorM
attribute [local go_sem] max2_int min2_int max_two min_two max_three min_three max_four min_four
set_option linter.unusedVariables false
set_option linter.unusedSimpArgs false
def laws_szEntry.f (a0_0 : ByteArray) (a0_1 : Int) (a0_2 : ByteArray) (a0_3 : Bool) (a1 : Int) : Option (Int) := if (wrap64 (a1 - (a0_0.size : Int))) < 0 then (some (-1)) else (if (wrap64 ((wrap64 (a1 - (a0_0.size : Int))) - (a0_2.size : Int))) < 0 then (some (-1)) else (some (wrap64 ((wrap64 (a1 - (a0_0.size : Int))) - (a0_2.size : Int)))))
set_option maxHeartbeats 8000000 in
set_option maxRecDepth 100000 in
theorem laws_szEntry.calls (a0_0 : ByteArray) (a0_1 : Int) (a0_2 : ByteArray) (a0_3 : Bool) (a1 : Int) (r : Int) (w : World) (h : laws_szEntry.f a0_0 a0_1 a0_2 a0_3 a1 = some r) :
 Calls Tryz.prog 42 #[.agg #[.string a0_0, .int .i64 a0_1, .string a0_2, .bool a0_3], .int .i64 a1] w fun e w' => e = .returned (.int .i64 r) ∧ Below w.heap.size w w' := by
 have hu66 := Tryz.underlying66
 have HB := Aside0.mk (Below.refl w.heap.size w)
 have H : (if (wrap64 (a1 - (a0_0.size : Int))) < 0 then (some (-1)) else (if (wrap64 ((wrap64 (a1 - (a0_0.size : Int))) - (a0_2.size : Int))) < 0 then (some (-1)) else (some (wrap64 ((wrap64 (a1 - (a0_0.size : Int))) - (a0_2.size : Int)))))) = some r := h
 clear h
 by_cases c3 : (wrap64 (a1 - (a0_0.size : Int))) < 0
 {
 rw [if_pos c3] at H
 have c3b0 : decide ((wrap64 (a1 - (a0_0.size : Int))) < 0) = true := decide_eq_true c3
 clear c3
 obtain rfl := Option.some.inj H
 go_enter Tryz.func42, Tryz.ntmps42
 go_wp2_with (first | ((with_reducible refine gate_dst (N := 2) rfl ?_); refine box_event ?hg (N := 2) ?hd (cs := #[.string a0_0, .int .i64 a0_1, .string a0_2, .bool a0_3]) (t := 66) ?hr ?_; (case hd => rfl); (case hg => rfl); (case hr => first | (go_simp; done) | (go_simp; rfl)); intro gb101 hg w4 hbox hb; have n0_ := Aside0.mk (below_step (bw_ HB) hb); have n1_ := Aside0.mk (hbox); have n2_ := Aside0.mk ((by rw [hg]; exact (below_size (bw_ HB)) : w.heap.size ≤ gb101)); have n3_ := Aside0.mk ((by rw [hg]; exact (below_size (bw_ HB)) : w.heap.size ≤ gb101)); clear HB; have HB := n0_; have BK101 := n1_; have GW101 := n2_; have GE101 := n3_; clear n0_ n1_ n2_ n3_; clear hb hbox hg; have hcz5_0 : w4.cell? ⟨gb101, 0, none⟩ = some (.string a0_0) := (blk_cell BK101.out 0).trans rfl; have hcz5_1 : w4.cell? ⟨gb101, 1, none⟩ = some (.int .i64 a0_1) := (blk_cell BK101.out 1).trans rfl; have hcz5_2 : w4.cell? ⟨gb101, 2, none⟩ = some (.string a0_2) := (blk_cell BK101.out 2).trans rfl; have hcz5_3 : w4.cell? ⟨gb101, 3, none⟩ = some (.bool a0_3) := (blk_cell BK101.out 3).trans rfl; have hfz5_0 := blk_frozen BK101.out 0; have hfz5_1 := blk_frozen BK101.out 1; have hfz5_2 := blk_frozen BK101.out 2; have hfz5_3 := blk_frozen BK101.out 3))
 go_ret
 exact ⟨eR_, bw1_ HB GE101⟩}
 {
 rw [if_neg c3] at H
 have c3b0 : decide ((wrap64 (a1 - (a0_0.size : Int))) < 0) = false := decide_eq_false c3
 clear c3
 by_cases c6 : (wrap64 ((wrap64 (a1 - (a0_0.size : Int))) - (a0_2.size : Int))) < 0
 {
 rw [if_pos c6] at H
 have c6b0 : decide ((wrap64 ((wrap64 (a1 - (a0_0.size : Int))) - (a0_2.size : Int))) < 0) = true := decide_eq_true c6
 clear c6
 obtain rfl := Option.some.inj H
 go_enter Tryz.func42, Tryz.ntmps42
 go_wp2_with (first | ((with_reducible refine gate_dst (N := 2) rfl ?_); refine box_event ?hg (N := 2) ?hd (cs := #[.string a0_0, .int .i64 a0_1, .string a0_2, .bool a0_3]) (t := 66) ?hr ?_; (case hd => rfl); (case hg => rfl); (case hr => first | (go_simp; done) | (go_simp; rfl)); intro gb101 hg w7 hbox hb; have n0_ := Aside0.mk (below_step (bw_ HB) hb); have n1_ := Aside0.mk (hbox); have n2_ := Aside0.mk ((by rw [hg]; exact (below_size (bw_ HB)) : w.heap.size ≤ gb101)); have n3_ := Aside0.mk ((by rw [hg]; exact (below_size (bw_ HB)) : w.heap.size ≤ gb101)); clear HB; have HB := n0_; have BK101 := n1_; have GW101 := n2_; have GE101 := n3_; clear n0_ n1_ n2_ n3_; clear hb hbox hg; have hcz8_0 : w7.cell? ⟨gb101, 0, none⟩ = some (.string a0_0) := (blk_cell BK101.out 0).trans rfl; have hcz8_1 : w7.cell? ⟨gb101, 1, none⟩ = some (.int .i64 a0_1) := (blk_cell BK101.out 1).trans rfl; have hcz8_2 : w7.cell? ⟨gb101, 2, none⟩ = some (.string a0_2) := (blk_cell BK101.out 2).trans rfl; have hcz8_3 : w7.cell? ⟨gb101, 3, none⟩ = some (.bool a0_3) := (blk_cell BK101.out 3).trans rfl; have hfz8_0 := blk_frozen BK101.out 0; have hfz8_1 := blk_frozen BK101.out 1; have hfz8_2 := blk_frozen BK101.out 2; have hfz8_3 := blk_frozen BK101.out 3))
 go_ret
 exact ⟨eR_, bw1_ HB GE101⟩}
 {
 rw [if_neg c6] at H
 have c6b0 : decide ((wrap64 ((wrap64 (a1 - (a0_0.size : Int))) - (a0_2.size : Int))) < 0) = false := decide_eq_false c6
 clear c6
 obtain rfl := Option.some.inj H
 go_enter Tryz.func42, Tryz.ntmps42
 go_wp2_with (first | ((with_reducible refine gate_dst (N := 2) rfl ?_); refine box_event ?hg (N := 2) ?hd (cs := #[.string a0_0, .int .i64 a0_1, .string a0_2, .bool a0_3]) (t := 66) ?hr ?_; (case hd => rfl); (case hg => rfl); (case hr => first | (go_simp; done) | (go_simp; rfl)); intro gb101 hg w9 hbox hb; have n0_ := Aside0.mk (below_step (bw_ HB) hb); have n1_ := Aside0.mk (hbox); have n2_ := Aside0.mk ((by rw [hg]; exact (below_size (bw_ HB)) : w.heap.size ≤ gb101)); have n3_ := Aside0.mk ((by rw [hg]; exact (below_size (bw_ HB)) : w.heap.size ≤ gb101)); clear HB; have HB := n0_; have BK101 := n1_; have GW101 := n2_; have GE101 := n3_; clear n0_ n1_ n2_ n3_; clear hb hbox hg; have hcz10_0 : w9.cell? ⟨gb101, 0, none⟩ = some (.string a0_0) := (blk_cell BK101.out 0).trans rfl; have hcz10_1 : w9.cell? ⟨gb101, 1, none⟩ = some (.int .i64 a0_1) := (blk_cell BK101.out 1).trans rfl; have hcz10_2 : w9.cell? ⟨gb101, 2, none⟩ = some (.string a0_2) := (blk_cell BK101.out 2).trans rfl; have hcz10_3 : w9.cell? ⟨gb101, 3, none⟩ = some (.bool a0_3) := (blk_cell BK101.out 3).trans rfl; have hfz10_0 := blk_frozen BK101.out 0; have hfz10_1 := blk_frozen BK101.out 1; have hfz10_2 := blk_frozen BK101.out 2; have hfz10_3 := blk_frozen BK101.out 3))
 go_ret
 exact ⟨eR_, bw1_ HB GE101⟩
}}
def laws_szEntryS.l0 : Nat → List (S66) → Int → Int → Option (Int)
 | 0, _, _, _ => none
 | k + 1, x0, x1, x5 => if x5 < (x0.length : Int) then (if 0 ≤ x5 then ((laws_szEntry.f ((rd_T66 x0 x5).f0) ((rd_T66 x0 x5).f1) ((rd_T66 x0 x5).f2) ((rd_T66 x0 x5).f3) x1).bind fun t103 => (if t103 < 0 then (some (-1)) else (laws_szEntryS.l0 k x0 t103 (wrap64 (x5 + 1))))) else (none)) else (some x1)
def laws_szEntryS.f (k : Nat) (l0 : List (S66)) (a1 : Int) : Option (Int) := if (wrap64 (a1 - (l0.length : Int))) < 0 then (some (-1)) else (laws_szEntryS.l0 k l0 (wrap64 (a1 - (l0.length : Int))) 0)
set_option maxHeartbeats 8000000 in
set_option maxRecDepth 100000 in
theorem laws_szEntryS.calls (k : Nat) (A0 : Option Addr) (c0 : Nat) (l0 : List (S66)) (a1 : Int) (r : Int) (w : World) (hr0 : Kd.C k66 w A0 l0.length l0) (hc0 : l0.length ≤ c0) (h : laws_szEntryS.f k l0 a1 = some r) :
 Calls Tryz.prog 18 #[.slice A0 l0.length c0, .int .i64 a1] w fun e w' => e = .returned (.int .i64 r) ∧ Below w.heap.size w w' := by
 have hu66 := Tryz.underlying66
 have HR0 := Aside0.mk hr0
 have HC0 := Aside0.mk hc0
 clear hr0 hc0
 have HB := Aside0.mk (Below.refl w.heap.size w)
 have H : (if (wrap64 (a1 - (l0.length : Int))) < 0 then (some (-1)) else (laws_szEntryS.l0 k l0 (wrap64 (a1 - (l0.length : Int))) 0)) = some r := h
 clear h
 by_cases c3 : (wrap64 (a1 - (l0.length : Int))) < 0
 {
 rw [if_pos c3] at H
 have c3b0 : decide ((wrap64 (a1 - (l0.length : Int))) < 0) = true := decide_eq_true c3
 clear c3
 obtain rfl := Option.some.inj H
 go_enter Tryz.func18, Tryz.ntmps18
 go_wp2
 go_ret
 exact ⟨eR_, bw_ HB⟩}
 {
 rw [if_neg c3] at H
 have c3b0 : decide ((wrap64 (a1 - (l0.length : Int))) < 0) = false := decide_eq_false c3
 clear c3
 have H' := Aside0.mk H
 clear H
 go_enter Tryz.func18, Tryz.ntmps18
 go_wp2
 go_loopg [1, 5] k (fun kq v1 v5 w' => ∃ (x1_1 : Int) (x5_1 : Int), v1 = .int .i64 x1_1 ∧ v5 = .int .i64 x5_1 ∧ Aside0 (laws_szEntryS.l0 kq l0 x1_1 x5_1 = some r) ∧ Aside0 (kq ≤ k) ∧ Aside0 (Below w.heap.size w w'))
 case atStart => exact ⟨(wrap64 (a1 - (l0.length : Int))), (0), (by first | rfl | (simp; done) | (simp [*]; done)), (by first | rfl | (simp; done) | (simp [*]; done)), H', ⟨Nat.le_refl _⟩, ⟨bw_ HB⟩⟩
 case round =>
  clear H'
  try clear c1
  try clear p2
  try clear c3
  try clear c3b0
  obtain ⟨x1_1, x5_1, rfl, rfl, HA, HK1, HB⟩ := hrel
  cases gk with
  | zero => exact absurd HA.out (by simp [laws_szEntryS.l0])
  | succ k1 =>
   have H := HA.out
   clear HA
   simp only [laws_szEntryS.l0] at H
   by_cases c4 : x5_1 < (l0.length : Int)
   {
   rw [if_pos c4] at H
   have c4b0 : decide (x5_1 < (l0.length : Int)) = true := decide_eq_true c4
   clear c4
   by_cases c5 : 0 ≤ x5_1
   {
   rw [if_pos c5] at H
   have c5b0 : decide (0 ≤ x5_1) = true := decide_eq_true c5
   clear c5
   replace H := Option.bind_eq_some_iff.mp H
   obtain ⟨t103, A60, H⟩ := H
   have A6 := Aside0.mk A60
   clear A60
   by_cases c7 : t103 < 0
   {
   rw [if_pos c7] at H
   have c7b0 : decide (t103 < 0) = true := decide_eq_true c7
   clear c7
   obtain rfl := Option.some.inj H
   have p102 : 0 ≤ (x5_1 : Int) := dA_
   have q102 : x5_1 < (l0.length : Int) := dA_
   obtain ⟨ad102, e102, hx102_0, hx102_1, hx102_2, hx102_3⟩ := at_T66 HR0.out x5_1 p102 q102
   cases e102
   replace hx102_0 := hX_ HB hx102_0
   replace hx102_1 := hX_ HB hx102_1
   replace hx102_2 := hX_ HB hx102_2
   replace hx102_3 := hX_ HB hx102_3
   replace p102 := eq_true p102
   replace q102 := eq_true q102
   go_wp2_with (first | ((with_reducible refine gate_callee (f := 42) rfl ?_); refine gL_ (some 23) Tryz.func42 #[.agg #[.string ((rd_T66 l0 x5_1).f0), .int .i64 ((rd_T66 l0 x5_1).f1), .string ((rd_T66 l0 x5_1).f2), .bool ((rd_T66 l0 x5_1).f3)], .int .i64 x1_1] ?_; (with_reducible refine (laws_szEntry.calls ((rd_T66 l0 x5_1).f0) ((rd_T66 l0 x5_1).f1) ((rd_T66 l0 x5_1).f2) ((rd_T66 l0 x5_1).f3) x1_1 t103 _ A6.out).mono ?_); rintro e w8 ⟨rfl, hb⟩; refine ⟨_, rfl, ?_⟩; have n0_ := Aside0.mk (below_step (bw_ HB) hb); clear HB; have HB := n0_; clear n0_; (try clear hb); (try clear hb2); (try clear hk); (try clear hi)))
   go_ret
   exact ⟨eR_, bw_ HB⟩}
   {
   rw [if_neg c7] at H
   have c7b0 : decide (t103 < 0) = false := decide_eq_false c7
   clear c7
   have H' := Aside0.mk H
   clear H
   have p102 : 0 ≤ (x5_1 : Int) := dA_
   have q102 : x5_1 < (l0.length : Int) := dA_
   obtain ⟨ad102, e102, hx102_0, hx102_1, hx102_2, hx102_3⟩ := at_T66 HR0.out x5_1 p102 q102
   cases e102
   replace hx102_0 := hX_ HB hx102_0
   replace hx102_1 := hX_ HB hx102_1
   replace hx102_2 := hX_ HB hx102_2
   replace hx102_3 := hX_ HB hx102_3
   replace p102 := eq_true p102
   replace q102 := eq_true q102
   go_wp2_with (first | ((with_reducible refine gate_callee (f := 42) rfl ?_); refine gL_ (some 23) Tryz.func42 #[.agg #[.string ((rd_T66 l0 x5_1).f0), .int .i64 ((rd_T66 l0 x5_1).f1), .string ((rd_T66 l0 x5_1).f2), .bool ((rd_T66 l0 x5_1).f3)], .int .i64 x1_1] ?_; (with_reducible refine (laws_szEntry.calls ((rd_T66 l0 x5_1).f0) ((rd_T66 l0 x5_1).f1) ((rd_T66 l0 x5_1).f2) ((rd_T66 l0 x5_1).f3) x1_1 t103 _ A6.out).mono ?_); rintro e w9 ⟨rfl, hb⟩; refine ⟨_, rfl, ?_⟩; have n0_ := Aside0.mk (below_step (bw_ HB) hb); clear HB; have HB := n0_; clear n0_; (try clear hb); (try clear hb2); (try clear hk); (try clear hi)))
   go_roundg k1
   case measure => have := HK1.out; omega
   case rel => exact ⟨(t103), (wrap64 (x5_1 + 1)), (by first | rfl | (simp; done) | (simp [*]; done)), (by first | rfl | (simp; done) | (simp [*]; done)), H', ⟨by have := HK1.out; omega⟩, ⟨bw_ HB⟩⟩}}
   {
   rw [if_neg c5] at H
   exact absurd H (by simp)}}
   {
   rw [if_neg c4] at H
   have c4b0 : decide (x5_1 < (l0.length : Int)) = false := decide_eq_false c4
   clear c4
   obtain rfl := Option.some.inj H
   go_wp2
   go_ret
   exact ⟨eR_, bw_ HB⟩
}}
def laws_szStringS.l0 : Nat → List ByteArray → Int → Int → Option (Int)
 | 0, _, _, _ => none
 | k + 1, x0, x1, x5 => if x5 < (x0.length : Int) then (if 0 ≤ x5 then (if (wrap64 (x1 - ((rdOf ByteArray.empty x0 x5).size : Int))) < 0 then (some (-1)) else (laws_szStringS.l0 k x0 (wrap64 (x1 - ((rdOf ByteArray.empty x0 x5).size : Int))) (wrap64 (x5 + 1)))) else (none)) else (some x1)
def laws_szStringS.f (k : Nat) (l0 : List ByteArray) (a1 : Int) : Option (Int) := if (wrap64 (a1 - (l0.length : Int))) < 0 then (some (-1)) else (laws_szStringS.l0 k l0 (wrap64 (a1 - (l0.length : Int))) 0)
set_option maxHeartbeats 8000000 in
set_option maxRecDepth 100000 in
theorem laws_szStringS.calls (k : Nat) (A0 : Option Addr) (c0 : Nat) (l0 : List ByteArray) (a1 : Int) (r : Int) (w : World) (hr0 : Kd.C Kd.string w A0 l0.length l0) (hc0 : l0.length ≤ c0) (h : laws_szStringS.f k l0 a1 = some r) :
 Calls Tryz.prog 25 #[.slice A0 l0.length c0, .int .i64 a1] w fun e w' => e = .returned (.int .i64 r) ∧ Drawn0 w w' := by
 have HR0 := Aside0.mk hr0
 have HC0 := Aside0.mk hc0
 clear hr0 hc0
 have H : (if (wrap64 (a1 - (l0.length : Int))) < 0 then (some (-1)) else (laws_szStringS.l0 k l0 (wrap64 (a1 - (l0.length : Int))) 0)) = some r := h
 clear h
 by_cases c3 : (wrap64 (a1 - (l0.length : Int))) < 0
 {
 rw [if_pos c3] at H
 have c3b0 : decide ((wrap64 (a1 - (l0.length : Int))) < 0) = true := decide_eq_true c3
 clear c3
 obtain rfl := Option.some.inj H
 go_enter Tryz.func25, Tryz.ntmps25
 go_wp2
 go_ret
 exact ⟨eS_, dR_⟩}
 {
 rw [if_neg c3] at H
 have c3b0 : decide ((wrap64 (a1 - (l0.length : Int))) < 0) = false := decide_eq_false c3
 clear c3
 have H' := Aside0.mk H
 clear H
 go_enter Tryz.func25, Tryz.ntmps25
 go_wp2
 go_loopg [1, 5] k (fun kq v1 v5 w' => ∃ (x1_1 : Int) (x5_1 : Int), v1 = .int .i64 x1_1 ∧ v5 = .int .i64 x5_1 ∧ Aside0 (laws_szStringS.l0 kq l0 x1_1 x5_1 = some r) ∧ Aside0 (kq ≤ k) ∧ Drawn0 w w')
 case atStart => exact ⟨(wrap64 (a1 - (l0.length : Int))), (0), (by first | rfl | (simp; done) | (simp [*]; done)), (by first | rfl | (simp; done) | (simp [*]; done)), H', ⟨Nat.le_refl _⟩, dR_⟩
 case round =>
  clear H'
  try clear c2
  try clear p2
  try clear c3
  try clear c3b0
  obtain ⟨x1_1, x5_1, rfl, rfl, HA, HK1, ⟨m1, rfl⟩⟩ := hrel
  cases gk with
  | zero => exact absurd HA.out (by simp [laws_szStringS.l0])
  | succ k1 =>
   have H := HA.out
   clear HA
   simp only [laws_szStringS.l0] at H
   by_cases c4 : x5_1 < (l0.length : Int)
   {
   rw [if_pos c4] at H
   have c4b0 : decide (x5_1 < (l0.length : Int)) = true := decide_eq_true c4
   clear c4
   by_cases c5 : 0 ≤ x5_1
   {
   rw [if_pos c5] at H
   have c5b0 : decide (0 ≤ x5_1) = true := decide_eq_true c5
   clear c5
   by_cases c6 : (wrap64 (x1_1 - ((rdOf ByteArray.empty l0 x5_1).size : Int))) < 0
   {
   rw [if_pos c6] at H
   have c6b0 : decide ((wrap64 (x1_1 - ((rdOf ByteArray.empty l0 x5_1).size : Int))) < 0) = true := decide_eq_true c6
   clear c6
   obtain rfl := Option.some.inj H
   have p104 : 0 ≤ (x5_1 : Int) := dA_
   have q104 : x5_1 < (l0.length : Int) := dA_
   obtain ⟨ad104, e104, hx104_0⟩ := Kd.at_string HR0.out x5_1 p104 q104
   cases e104
   replace p104 := eq_true p104
   replace q104 := eq_true q104
   go_wp2
   go_ret
   exact ⟨eS_, dR_⟩}
   {
   rw [if_neg c6] at H
   have c6b0 : decide ((wrap64 (x1_1 - ((rdOf ByteArray.empty l0 x5_1).size : Int))) < 0) = false := decide_eq_false c6
   clear c6
   have H' := Aside0.mk H
   clear H
   have p104 : 0 ≤ (x5_1 : Int) := dA_
   have q104 : x5_1 < (l0.length : Int) := dA_
   obtain ⟨ad104, e104, hx104_0⟩ := Kd.at_string HR0.out x5_1 p104 q104
   cases e104
   replace p104 := eq_true p104
   replace q104 := eq_true q104
   go_wp2
   go_roundg k1
   case measure => have := HK1.out; omega
   case rel => exact ⟨(wrap64 (x1_1 - ((rdOf ByteArray.empty l0 x5_1).size : Int))), (wrap64 (x5_1 + 1)), (by first | rfl | (simp; done) | (simp [*]; done)), (by first | rfl | (simp; done) | (simp [*]; done)), H', ⟨by have := HK1.out; omega⟩, dR_⟩}}
   {
   rw [if_neg c5] at H
   exact absurd H (by simp)}}
   {
   rw [if_neg c4] at H
   have c4b0 : decide (x5_1 < (l0.length : Int)) = false := decide_eq_false c4
   clear c4
   obtain rfl := Option.some.inj H
   go_wp2
   go_ret
   exact ⟨eS_, dR_⟩
}}
def laws_szItem.f (k : Nat) (a0_0 : ByteArray) (a0_1 : ByteArray) (l0_2 : List ByteArray) (a0_3 : ByteArray) (l0_4 : List (S66)) (a1 : Int) : Option (Int) := if (wrap64 (a1 - (a0_0.size : Int))) < 0 then (some (-1)) else (if (wrap64 ((wrap64 (a1 - (a0_0.size : Int))) - (a0_1.size : Int))) < 0 then (some (-1)) else ((laws_szStringS.f k l0_2 (wrap64 ((wrap64 (a1 - (a0_0.size : Int))) - (a0_1.size : Int)))).bind fun t106 => (if t106 < 0 then (some (-1)) else (if (wrap64 (t106 - (a0_3.size : Int))) < 0 then (some (-1)) else ((laws_szEntryS.f k l0_4 (wrap64 (t106 - (a0_3.size : Int)))).bind fun t107 => (if t107 < 0 then (some (-1)) else (some t107)))))))
set_option maxHeartbeats 8000000 in
set_option maxRecDepth 100000 in
theorem laws_szItem.calls (k : Nat) (a0_0 : ByteArray) (a0_1 : ByteArray) (A0_2 : Option Addr) (c0_2 : Nat) (l0_2 : List ByteArray) (a0_3 : ByteArray) (A0_4 : Option Addr) (c0_4 : Nat) (l0_4 : List (S66)) (a1 : Int) (r : Int) (w : World) (hr0_2 : Kd.C Kd.string w A0_2 l0_2.length l0_2) (hc0_2 : l0_2.length ≤ c0_2) (hr0_4 : Kd.C k66 w A0_4 l0_4.length l0_4) (hc0_4 : l0_4.length ≤ c0_4) (h : laws_szItem.f k a0_0 a0_1 l0_2 a0_3 l0_4 a1 = some r) :
 Calls Tryz.prog 29 #[.agg #[.string a0_0, .string a0_1, .slice A0_2 l0_2.length c0_2, .string a0_3, .slice A0_4 l0_4.length c0_4], .int .i64 a1] w fun e w' => e = .returned (.int .i64 r) ∧ Below w.heap.size w w' := by
 have hu50 := Tryz.underlying50
 have HR0_2 := Aside0.mk hr0_2
 have HC0_2 := Aside0.mk hc0_2
 clear hr0_2 hc0_2
 have HR0_4 := Aside0.mk hr0_4
 have HC0_4 := Aside0.mk hc0_4
 clear hr0_4 hc0_4
 have HB := Aside0.mk (Below.refl w.heap.size w)
 have H : (if (wrap64 (a1 - (a0_0.size : Int))) < 0 then (some (-1)) else (if (wrap64 ((wrap64 (a1 - (a0_0.size : Int))) - (a0_1.size : Int))) < 0 then (some (-1)) else ((laws_szStringS.f k l0_2 (wrap64 ((wrap64 (a1 - (a0_0.size : Int))) - (a0_1.size : Int)))).bind fun t106 => (if t106 < 0 then (some (-1)) else (if (wrap64 (t106 - (a0_3.size : Int))) < 0 then (some (-1)) else ((laws_szEntryS.f k l0_4 (wrap64 (t106 - (a0_3.size : Int)))).bind fun t107 => (if t107 < 0 then (some (-1)) else (some t107)))))))) = some r := h
 clear h
 by_cases c3 : (wrap64 (a1 - (a0_0.size : Int))) < 0
 {
 rw [if_pos c3] at H
 have c3b0 : decide ((wrap64 (a1 - (a0_0.size : Int))) < 0) = true := decide_eq_true c3
 clear c3
 obtain rfl := Option.some.inj H
 go_enter Tryz.func29, Tryz.ntmps29
 go_wp2_with (first | ((with_reducible refine gate_dst (N := 2) rfl ?_); refine box_event ?hg (N := 2) ?hd (cs := #[.string a0_0, .string a0_1, .slice A0_2 l0_2.length c0_2, .string a0_3, .slice A0_4 l0_4.length c0_4]) (t := 50) ?hr ?_; (case hd => rfl); (case hg => rfl); (case hr => first | (go_simp; done) | (go_simp; rfl)); intro gb105 hg w4 hbox hb; have n0_ := Aside0.mk (below_step (bw_ HB) hb); have n1_ := Aside0.mk (hbox); have n2_ := Aside0.mk ((by rw [hg]; exact (below_size (bw_ HB)) : w.heap.size ≤ gb105)); have n3_ := Aside0.mk ((by rw [hg]; exact (below_size (bw_ HB)) : w.heap.size ≤ gb105)); clear HB; have HB := n0_; have BK105 := n1_; have GW105 := n2_; have GE105 := n3_; clear n0_ n1_ n2_ n3_; clear hb hbox hg; have hcz5_0 : w4.cell? ⟨gb105, 0, none⟩ = some (.string a0_0) := (blk_cell BK105.out 0).trans rfl; have hcz5_1 : w4.cell? ⟨gb105, 1, none⟩ = some (.string a0_1) := (blk_cell BK105.out 1).trans rfl; have hcz5_2 : w4.cell? ⟨gb105, 2, none⟩ = some (.slice A0_2 l0_2.length c0_2) := (blk_cell BK105.out 2).trans rfl; have hcz5_3 : w4.cell? ⟨gb105, 3, none⟩ = some (.string a0_3) := (blk_cell BK105.out 3).trans rfl; have hcz5_4 : w4.cell? ⟨gb105, 4, none⟩ = some (.slice A0_4 l0_4.length c0_4) := (blk_cell BK105.out 4).trans rfl; have hfz5_0 := blk_frozen BK105.out 0; have hfz5_1 := blk_frozen BK105.out 1; have hfz5_2 := blk_frozen BK105.out 2; have hfz5_3 := blk_frozen BK105.out 3; have hfz5_4 := blk_frozen BK105.out 4))
 go_ret
 exact ⟨eR_, bw1_ HB GE105⟩}
 {
 rw [if_neg c3] at H
 have c3b0 : decide ((wrap64 (a1 - (a0_0.size : Int))) < 0) = false := decide_eq_false c3
 clear c3
 by_cases c6 : (wrap64 ((wrap64 (a1 - (a0_0.size : Int))) - (a0_1.size : Int))) < 0
 {
 rw [if_pos c6] at H
 have c6b0 : decide ((wrap64 ((wrap64 (a1 - (a0_0.size : Int))) - (a0_1.size : Int))) < 0) = true := decide_eq_true c6
 clear c6
 obtain rfl := Option.some.inj H
 go_enter Tryz.func29, Tryz.ntmps29
 go_wp2_with (first | ((with_reducible refine gate_dst (N := 2) rfl ?_); refine box_event ?hg (N := 2) ?hd (cs := #[.string a0_0, .string a0_1, .slice A0_2 l0_2.length c0_2, .string a0_3, .slice A0_4 l0_4.length c0_4]) (t := 50) ?hr ?_; (case hd => rfl); (case hg => rfl); (case hr => first | (go_simp; done) | (go_simp; rfl)); intro gb105 hg w7 hbox hb; have n0_ := Aside0.mk (below_step (bw_ HB) hb); have n1_ := Aside0.mk (hbox); have n2_ := Aside0.mk ((by rw [hg]; exact (below_size (bw_ HB)) : w.heap.size ≤ gb105)); have n3_ := Aside0.mk ((by rw [hg]; exact (below_size (bw_ HB)) : w.heap.size ≤ gb105)); clear HB; have HB := n0_; have BK105 := n1_; have GW105 := n2_; have GE105 := n3_; clear n0_ n1_ n2_ n3_; clear hb hbox hg; have hcz8_0 : w7.cell? ⟨gb105, 0, none⟩ = some (.string a0_0) := (blk_cell BK105.out 0).trans rfl; have hcz8_1 : w7.cell? ⟨gb105, 1, none⟩ = some (.string a0_1) := (blk_cell BK105.out 1).trans rfl; have hcz8_2 : w7.cell? ⟨gb105, 2, none⟩ = some (.slice A0_2 l0_2.length c0_2) := (blk_cell BK105.out 2).trans rfl; have hcz8_3 : w7.cell? ⟨gb105, 3, none⟩ = some (.string a0_3) := (blk_cell BK105.out 3).trans rfl; have hcz8_4 : w7.cell? ⟨gb105, 4, none⟩ = some (.slice A0_4 l0_4.length c0_4) := (blk_cell BK105.out 4).trans rfl; have hfz8_0 := blk_frozen BK105.out 0; have hfz8_1 := blk_frozen BK105.out 1; have hfz8_2 := blk_frozen BK105.out 2; have hfz8_3 := blk_frozen BK105.out 3; have hfz8_4 := blk_frozen BK105.out 4))
 go_ret
 exact ⟨eR_, bw1_ HB GE105⟩}
 {
 rw [if_neg c6] at H
 have c6b0 : decide ((wrap64 ((wrap64 (a1 - (a0_0.size : Int))) - (a0_1.size : Int))) < 0) = false := decide_eq_false c6
 clear c6
 replace H := Option.bind_eq_some_iff.mp H
 obtain ⟨t106, A90, H⟩ := H
 have A9 := Aside0.mk A90
 clear A90
 by_cases c10 : t106 < 0
 {
 rw [if_pos c10] at H
 have c10b0 : decide (t106 < 0) = true := decide_eq_true c10
 clear c10
 obtain rfl := Option.some.inj H
 go_enter Tryz.func29, Tryz.ntmps29
 go_wp2_with (first | ((with_reducible refine gate_dst (N := 2) rfl ?_); refine box_event ?hg (N := 2) ?hd (cs := #[.string a0_0, .string a0_1, .slice A0_2 l0_2.length c0_2, .string a0_3, .slice A0_4 l0_4.length c0_4]) (t := 50) ?hr ?_; (case hd => rfl); (case hg => rfl); (case hr => first | (go_simp; done) | (go_simp; rfl)); intro gb105 hg w11 hbox hb; have n0_ := Aside0.mk (below_step (bw_ HB) hb); have n1_ := Aside0.mk (hbox); have n2_ := Aside0.mk ((by rw [hg]; exact (below_size (bw_ HB)) : w.heap.size ≤ gb105)); have n3_ := Aside0.mk ((by rw [hg]; exact (below_size (bw_ HB)) : w.heap.size ≤ gb105)); clear HB; have HB := n0_; have BK105 := n1_; have GW105 := n2_; have GE105 := n3_; clear n0_ n1_ n2_ n3_; clear hb hbox hg; have hcz12_0 : w11.cell? ⟨gb105, 0, none⟩ = some (.string a0_0) := (blk_cell BK105.out 0).trans rfl; have hcz12_1 : w11.cell? ⟨gb105, 1, none⟩ = some (.string a0_1) := (blk_cell BK105.out 1).trans rfl; have hcz12_2 : w11.cell? ⟨gb105, 2, none⟩ = some (.slice A0_2 l0_2.length c0_2) := (blk_cell BK105.out 2).trans rfl; have hcz12_3 : w11.cell? ⟨gb105, 3, none⟩ = some (.string a0_3) := (blk_cell BK105.out 3).trans rfl; have hcz12_4 : w11.cell? ⟨gb105, 4, none⟩ = some (.slice A0_4 l0_4.length c0_4) := (blk_cell BK105.out 4).trans rfl; have hfz12_0 := blk_frozen BK105.out 0; have hfz12_1 := blk_frozen BK105.out 1; have hfz12_2 := blk_frozen BK105.out 2; have hfz12_3 := blk_frozen BK105.out 3; have hfz12_4 := blk_frozen BK105.out 4) | ((with_reducible refine gate_callee (f := 25) rfl ?_); refine gL_ (some 22) Tryz.func25 #[.slice A0_2 l0_2.length c0_2, .int .i64 (wrap64 ((wrap64 (a1 - (a0_0.size : Int))) - (a0_1.size : Int)))] ?_; (with_reducible refine (laws_szStringS.calls k _ _ l0_2 (wrap64 ((wrap64 (a1 - (a0_0.size : Int))) - (a0_1.size : Int))) t106 _ ?side1 ?side2 A9.out).mono ?_); (case side1 => exact cS_ HR0_2 HB); (case side2 => exact HC0_2.out); rintro e w' ⟨rfl, ⟨nd, rfl⟩⟩; refine ⟨_, rfl, ?_⟩))
 go_ret
 exact ⟨eR_, bw1_ HB GE105⟩}
 {
 rw [if_neg c10] at H
 have c10b0 : decide (t106 < 0) = false := decide_eq_false c10
 clear c10
 by_cases c13 : (wrap64 (t106 - (a0_3.size : Int))) < 0
 {
 rw [if_pos c13] at H
 have c13b0 : decide ((wrap64 (t106 - (a0_3.size : Int))) < 0) = true := decide_eq_true c13
 clear c13
 obtain rfl := Option.some.inj H
 go_enter Tryz.func29, Tryz.ntmps29
 go_wp2_with (first | ((with_reducible refine gate_dst (N := 2) rfl ?_); refine box_event ?hg (N := 2) ?hd (cs := #[.string a0_0, .string a0_1, .slice A0_2 l0_2.length c0_2, .string a0_3, .slice A0_4 l0_4.length c0_4]) (t := 50) ?hr ?_; (case hd => rfl); (case hg => rfl); (case hr => first | (go_simp; done) | (go_simp; rfl)); intro gb105 hg w14 hbox hb; have n0_ := Aside0.mk (below_step (bw_ HB) hb); have n1_ := Aside0.mk (hbox); have n2_ := Aside0.mk ((by rw [hg]; exact (below_size (bw_ HB)) : w.heap.size ≤ gb105)); have n3_ := Aside0.mk ((by rw [hg]; exact (below_size (bw_ HB)) : w.heap.size ≤ gb105)); clear HB; have HB := n0_; have BK105 := n1_; have GW105 := n2_; have GE105 := n3_; clear n0_ n1_ n2_ n3_; clear hb hbox hg; have hcz15_0 : w14.cell? ⟨gb105, 0, none⟩ = some (.string a0_0) := (blk_cell BK105.out 0).trans rfl; have hcz15_1 : w14.cell? ⟨gb105, 1, none⟩ = some (.string a0_1) := (blk_cell BK105.out 1).trans rfl; have hcz15_2 : w14.cell? ⟨gb105, 2, none⟩ = some (.slice A0_2 l0_2.length c0_2) := (blk_cell BK105.out 2).trans rfl; have hcz15_3 : w14.cell? ⟨gb105, 3, none⟩ = some (.string a0_3) := (blk_cell BK105.out 3).trans rfl; have hcz15_4 : w14.cell? ⟨gb105, 4, none⟩ = some (.slice A0_4 l0_4.length c0_4) := (blk_cell BK105.out 4).trans rfl; have hfz15_0 := blk_frozen BK105.out 0; have hfz15_1 := blk_frozen BK105.out 1; have hfz15_2 := blk_frozen BK105.out 2; have hfz15_3 := blk_frozen BK105.out 3; have hfz15_4 := blk_frozen BK105.out 4) | ((with_reducible refine gate_callee (f := 25) rfl ?_); refine gL_ (some 22) Tryz.func25 #[.slice A0_2 l0_2.length c0_2, .int .i64 (wrap64 ((wrap64 (a1 - (a0_0.size : Int))) - (a0_1.size : Int)))] ?_; (with_reducible refine (laws_szStringS.calls k _ _ l0_2 (wrap64 ((wrap64 (a1 - (a0_0.size : Int))) - (a0_1.size : Int))) t106 _ ?side1 ?side2 A9.out).mono ?_); (case side1 => exact cS_ HR0_2 HB); (case side2 => exact HC0_2.out); rintro e w' ⟨rfl, ⟨nd, rfl⟩⟩; refine ⟨_, rfl, ?_⟩))
 go_ret
 exact ⟨eR_, bw1_ HB GE105⟩}
 {
 rw [if_neg c13] at H
 have c13b0 : decide ((wrap64 (t106 - (a0_3.size : Int))) < 0) = false := decide_eq_false c13
 clear c13
 replace H := Option.bind_eq_some_iff.mp H
 obtain ⟨t107, A160, H⟩ := H
 have A16 := Aside0.mk A160
 clear A160
 by_cases c17 : t107 < 0
 {
 rw [if_pos c17] at H
 have c17b0 : decide (t107 < 0) = true := decide_eq_true c17
 clear c17
 obtain rfl := Option.some.inj H
 go_enter Tryz.func29, Tryz.ntmps29
 go_wp2_with (first | ((with_reducible refine gate_dst (N := 2) rfl ?_); refine box_event ?hg (N := 2) ?hd (cs := #[.string a0_0, .string a0_1, .slice A0_2 l0_2.length c0_2, .string a0_3, .slice A0_4 l0_4.length c0_4]) (t := 50) ?hr ?_; (case hd => rfl); (case hg => rfl); (case hr => first | (go_simp; done) | (go_simp; rfl)); intro gb105 hg w18 hbox hb; have n0_ := Aside0.mk (below_step (bw_ HB) hb); have n1_ := Aside0.mk (hbox); have n2_ := Aside0.mk ((by rw [hg]; exact (below_size (bw_ HB)) : w.heap.size ≤ gb105)); have n3_ := Aside0.mk ((by rw [hg]; exact (below_size (bw_ HB)) : w.heap.size ≤ gb105)); clear HB; have HB := n0_; have BK105 := n1_; have GW105 := n2_; have GE105 := n3_; clear n0_ n1_ n2_ n3_; clear hb hbox hg; have hcz19_0 : w18.cell? ⟨gb105, 0, none⟩ = some (.string a0_0) := (blk_cell BK105.out 0).trans rfl; have hcz19_1 : w18.cell? ⟨gb105, 1, none⟩ = some (.string a0_1) := (blk_cell BK105.out 1).trans rfl; have hcz19_2 : w18.cell? ⟨gb105, 2, none⟩ = some (.slice A0_2 l0_2.length c0_2) := (blk_cell BK105.out 2).trans rfl; have hcz19_3 : w18.cell? ⟨gb105, 3, none⟩ = some (.string a0_3) := (blk_cell BK105.out 3).trans rfl; have hcz19_4 : w18.cell? ⟨gb105, 4, none⟩ = some (.slice A0_4 l0_4.length c0_4) := (blk_cell BK105.out 4).trans rfl; have hfz19_0 := blk_frozen BK105.out 0; have hfz19_1 := blk_frozen BK105.out 1; have hfz19_2 := blk_frozen BK105.out 2; have hfz19_3 := blk_frozen BK105.out 3; have hfz19_4 := blk_frozen BK105.out 4) | ((with_reducible refine gate_callee (f := 25) rfl ?_); refine gL_ (some 22) Tryz.func25 #[.slice A0_2 l0_2.length c0_2, .int .i64 (wrap64 ((wrap64 (a1 - (a0_0.size : Int))) - (a0_1.size : Int)))] ?_; (with_reducible refine (laws_szStringS.calls k _ _ l0_2 (wrap64 ((wrap64 (a1 - (a0_0.size : Int))) - (a0_1.size : Int))) t106 _ ?side1 ?side2 A9.out).mono ?_); (case side1 => exact cS_ HR0_2 HB); (case side2 => exact HC0_2.out); rintro e w' ⟨rfl, ⟨nd, rfl⟩⟩; refine ⟨_, rfl, ?_⟩) | ((with_reducible refine gate_callee (f := 18) rfl ?_); refine gL_ (some 35) Tryz.func18 #[.slice A0_4 l0_4.length c0_4, .int .i64 (wrap64 (t106 - (a0_3.size : Int)))] ?_; (with_reducible refine (laws_szEntryS.calls k _ _ l0_4 (wrap64 (t106 - (a0_3.size : Int))) t107 _ ?side1 ?side2 A16.out).mono ?_); (case side1 => repeat (first | exact (Kd.C_below HR0_4.out (bw1_ HB GE105)) | (with_reducible refine Kd.C_alloc ?_ _) | (with_reducible refine Kd.C_drewN ?_ _) | (with_reducible refine Kd.C_drew ?_))); (case side2 => exact HC0_4.out); rintro e w20 ⟨rfl, hb⟩; refine ⟨_, rfl, ?_⟩; have n0_ := Aside0.mk (blk_below (g := gb105) (o := .cells #[.string a0_0, .string a0_1, .slice A0_2 l0_2.length c0_2, .string a0_3, .slice A0_4 l0_4.length c0_4] 50 (0, 0)) (by (with_reducible repeat (first | refine blk_drewN ?_ _ | refine blk_drew ?_ | refine blk_alloc ?_ _)); exact BK105.out) hb); have n1_ := Aside0.mk (below_step (bw1_ HB GE105) hb); clear BK105; clear HB; have BK105 := n0_; have HB := n1_; clear n0_ n1_; (try clear hb); (try clear hb2); (try clear hk); (try clear hi)))
 go_ret
 exact ⟨eR_, bw1_ HB GE105⟩}
 {
 rw [if_neg c17] at H
 have c17b0 : decide (t107 < 0) = false := decide_eq_false c17
 clear c17
 obtain rfl := Option.some.inj H
 go_enter Tryz.func29, Tryz.ntmps29
 go_wp2_with (first | ((with_reducible refine gate_dst (N := 2) rfl ?_); refine box_event ?hg (N := 2) ?hd (cs := #[.string a0_0, .string a0_1, .slice A0_2 l0_2.length c0_2, .string a0_3, .slice A0_4 l0_4.length c0_4]) (t := 50) ?hr ?_; (case hd => rfl); (case hg => rfl); (case hr => first | (go_simp; done) | (go_simp; rfl)); intro gb105 hg w21 hbox hb; have n0_ := Aside0.mk (below_step (bw_ HB) hb); have n1_ := Aside0.mk (hbox); have n2_ := Aside0.mk ((by rw [hg]; exact (below_size (bw_ HB)) : w.heap.size ≤ gb105)); have n3_ := Aside0.mk ((by rw [hg]; exact (below_size (bw_ HB)) : w.heap.size ≤ gb105)); clear HB; have HB := n0_; have BK105 := n1_; have GW105 := n2_; have GE105 := n3_; clear n0_ n1_ n2_ n3_; clear hb hbox hg; have hcz22_0 : w21.cell? ⟨gb105, 0, none⟩ = some (.string a0_0) := (blk_cell BK105.out 0).trans rfl; have hcz22_1 : w21.cell? ⟨gb105, 1, none⟩ = some (.string a0_1) := (blk_cell BK105.out 1).trans rfl; have hcz22_2 : w21.cell? ⟨gb105, 2, none⟩ = some (.slice A0_2 l0_2.length c0_2) := (blk_cell BK105.out 2).trans rfl; have hcz22_3 : w21.cell? ⟨gb105, 3, none⟩ = some (.string a0_3) := (blk_cell BK105.out 3).trans rfl; have hcz22_4 : w21.cell? ⟨gb105, 4, none⟩ = some (.slice A0_4 l0_4.length c0_4) := (blk_cell BK105.out 4).trans rfl; have hfz22_0 := blk_frozen BK105.out 0; have hfz22_1 := blk_frozen BK105.out 1; have hfz22_2 := blk_frozen BK105.out 2; have hfz22_3 := blk_frozen BK105.out 3; have hfz22_4 := blk_frozen BK105.out 4) | ((with_reducible refine gate_callee (f := 25) rfl ?_); refine gL_ (some 22) Tryz.func25 #[.slice A0_2 l0_2.length c0_2, .int .i64 (wrap64 ((wrap64 (a1 - (a0_0.size : Int))) - (a0_1.size : Int)))] ?_; (with_reducible refine (laws_szStringS.calls k _ _ l0_2 (wrap64 ((wrap64 (a1 - (a0_0.size : Int))) - (a0_1.size : Int))) t106 _ ?side1 ?side2 A9.out).mono ?_); (case side1 => exact cS_ HR0_2 HB); (case side2 => exact HC0_2.out); rintro e w' ⟨rfl, ⟨nd, rfl⟩⟩; refine ⟨_, rfl, ?_⟩) | ((with_reducible refine gate_callee (f := 18) rfl ?_); refine gL_ (some 35) Tryz.func18 #[.slice A0_4 l0_4.length c0_4, .int .i64 (wrap64 (t106 - (a0_3.size : Int)))] ?_; (with_reducible refine (laws_szEntryS.calls k _ _ l0_4 (wrap64 (t106 - (a0_3.size : Int))) t107 _ ?side1 ?side2 A16.out).mono ?_); (case side1 => repeat (first | exact (Kd.C_below HR0_4.out (bw1_ HB GE105)) | (with_reducible refine Kd.C_alloc ?_ _) | (with_reducible refine Kd.C_drewN ?_ _) | (with_reducible refine Kd.C_drew ?_))); (case side2 => exact HC0_4.out); rintro e w23 ⟨rfl, hb⟩; refine ⟨_, rfl, ?_⟩; have n0_ := Aside0.mk (blk_below (g := gb105) (o := .cells #[.string a0_0, .string a0_1, .slice A0_2 l0_2.length c0_2, .string a0_3, .slice A0_4 l0_4.length c0_4] 50 (0, 0)) (by (with_reducible repeat (first | refine blk_drewN ?_ _ | refine blk_drew ?_ | refine blk_alloc ?_ _)); exact BK105.out) hb); have n1_ := Aside0.mk (below_step (bw1_ HB GE105) hb); clear BK105; clear HB; have BK105 := n0_; have HB := n1_; clear n0_ n1_; (try clear hb); (try clear hb2); (try clear hk); (try clear hi)))
 go_ret
 exact ⟨eR_, bw1_ HB GE105⟩
}}}}}
end Go.Proofs.YtkhhkpjeafknpaaGreatDoor.P
end

section
namespace Go.Proofs.YtkhhkpjeafknpaaGreatDoor.P
open Go.RowKit Go.Proofs.YtkhhkpjeafknpaaGreatDoorW.PrintWords Go.Proofs.YtkhhkpjeafknpaaGreatDoorW.PrintLast Go.Proofs.YtkhhkpjeafknpaaGreatDoorW.PrintMore Go.Proofs.YtkhhkpjeafknpaaGreatDoorM
attribute [local go_sem] max2_int min2_int max_two min_two max_three min_three max_four min_four
set_option linter.unusedVariables false
set_option linter.unusedSimpArgs false
def laws_szItemS.l0 : Nat → List (S50) → Int → Int → Option (Int)
 | 0, _, _, _ => none
 | k + 1, x0, x1, x5 => if x5 < (x0.length : Int) then (if 0 ≤ x5 then ((laws_szItem.f k ((rd_T50 x0 x5).f0) ((rd_T50 x0 x5).f1) ((rd_T50 x0 x5).f2) ((rd_T50 x0 x5).f3) ((rd_T50 x0 x5).f4) x1).bind fun t109 => (if t109 < 0 then (some (-1)) else (laws_szItemS.l0 k x0 t109 (wrap64 (x5 + 1))))) else (none)) else (some x1)
def laws_szItemS.f (k : Nat) (l0 : List (S50)) (a1 : Int) : Option (Int) := if (wrap64 (a1 - (l0.length : Int))) < 0 then (some (-1)) else (laws_szItemS.l0 k l0 (wrap64 (a1 - (l0.length : Int))) 0)
set_option maxHeartbeats 8000000 in
set_option maxRecDepth 100000 in
theorem laws_szItemS.calls (k : Nat) (A0 : Option Addr) (c0 : Nat) (l0 : List (S50)) (a1 : Int) (r : Int) (w : World) (hr0 : Kd.C k50 w A0 l0.length l0) (hc0 : l0.length ≤ c0) (h : laws_szItemS.f k l0 a1 = some r) :
 Calls Tryz.prog 7 #[.slice A0 l0.length c0, .int .i64 a1] w fun e w' => e = .returned (.int .i64 r) ∧ Below w.heap.size w w' := by
 have hu50 := Tryz.underlying50
 have HR0 := Aside0.mk hr0
 have HC0 := Aside0.mk hc0
 clear hr0 hc0
 have HB := Aside0.mk (Below.refl w.heap.size w)
 have H : (if (wrap64 (a1 - (l0.length : Int))) < 0 then (some (-1)) else (laws_szItemS.l0 k l0 (wrap64 (a1 - (l0.length : Int))) 0)) = some r := h
 clear h
 by_cases c3 : (wrap64 (a1 - (l0.length : Int))) < 0
 {
 rw [if_pos c3] at H
 have c3b0 : decide ((wrap64 (a1 - (l0.length : Int))) < 0) = true := decide_eq_true c3
 clear c3
 obtain rfl := Option.some.inj H
 go_enter Tryz.func7, Tryz.ntmps7
 go_wp2
 go_ret
 exact ⟨eR_, bw_ HB⟩}
 {
 rw [if_neg c3] at H
 have c3b0 : decide ((wrap64 (a1 - (l0.length : Int))) < 0) = false := decide_eq_false c3
 clear c3
 have H' := Aside0.mk H
 clear H
 go_enter Tryz.func7, Tryz.ntmps7
 go_wp2
 go_loopg [1, 5] k (fun kq v1 v5 w' => ∃ (x1_1 : Int) (x5_1 : Int), v1 = .int .i64 x1_1 ∧ v5 = .int .i64 x5_1 ∧ Aside0 (laws_szItemS.l0 kq l0 x1_1 x5_1 = some r) ∧ Aside0 (kq ≤ k) ∧ Aside0 (Below w.heap.size w w'))
 case atStart => exact ⟨(wrap64 (a1 - (l0.length : Int))), (0), (by first | rfl | (simp; done) | (simp [*]; done)), (by first | rfl | (simp; done) | (simp [*]; done)), H', ⟨Nat.le_refl _⟩, ⟨bw_ HB⟩⟩
 case round =>
  clear H'
  try clear p2
  try clear c3
  try clear c3b0
  obtain ⟨x1_1, x5_1, rfl, rfl, HA, HK1, HB⟩ := hrel
  cases gk with
  | zero => exact absurd HA.out (by simp [laws_szItemS.l0])
  | succ k1 =>
   have H := HA.out
   clear HA
   simp only [laws_szItemS.l0] at H
   by_cases c4 : x5_1 < (l0.length : Int)
   {
   rw [if_pos c4] at H
   have c4b0 : decide (x5_1 < (l0.length : Int)) = true := decide_eq_true c4
   clear c4
   by_cases c5 : 0 ≤ x5_1
   {
   rw [if_pos c5] at H
   have c5b0 : decide (0 ≤ x5_1) = true := decide_eq_true c5
   clear c5
   replace H := Option.bind_eq_some_iff.mp H
   obtain ⟨t109, A60, H⟩ := H
   have A6 := Aside0.mk A60
   clear A60
   by_cases c7 : t109 < 0
   {
   rw [if_pos c7] at H
   have c7b0 : decide (t109 < 0) = true := decide_eq_true c7
   clear c7
   obtain rfl := Option.some.inj H
   have p108 : 0 ≤ (x5_1 : Int) := dA_
   have q108 : x5_1 < (l0.length : Int) := dA_
   obtain ⟨ad108, A108_2, c108_2, A108_4, c108_4, e108, hx108_0, hx108_1, hx108_2, hx108_3, hx108_4, hl108_2, hi108_2, hl108_4, hi108_4⟩ := at_T50 HR0.out x5_1 p108 q108
   cases e108
   replace hx108_0 := hX_ HB hx108_0
   replace hx108_1 := hX_ HB hx108_1
   replace hx108_2 := hX_ HB hx108_2
   replace hx108_3 := hX_ HB hx108_3
   replace hx108_4 := hX_ HB hx108_4
   have HR108_2 := Aside0.mk hi108_2
   have HC108_2 := Aside0.mk hl108_2
   clear hi108_2 hl108_2
   have HR108_4 := Aside0.mk hi108_4
   have HC108_4 := Aside0.mk hl108_4
   clear hi108_4 hl108_4
   replace p108 := eq_true p108
   replace q108 := eq_true q108
   go_wp2_with (first | ((with_reducible refine gate_callee (f := 29) rfl ?_); refine gL_ (some 23) Tryz.func29 #[.agg #[.string ((rd_T50 l0 x5_1).f0), .string ((rd_T50 l0 x5_1).f1), .slice A108_2 ((rd_T50 l0 x5_1).f2).length c108_2, .string ((rd_T50 l0 x5_1).f3), .slice A108_4 ((rd_T50 l0 x5_1).f4).length c108_4], .int .i64 x1_1] ?_; (with_reducible refine (laws_szItem.calls k1 ((rd_T50 l0 x5_1).f0) ((rd_T50 l0 x5_1).f1) _ _ ((rd_T50 l0 x5_1).f2) ((rd_T50 l0 x5_1).f3) _ _ ((rd_T50 l0 x5_1).f4) x1_1 t109 _ ?side1 ?side2 ?side3 ?side4 A6.out).mono ?_); (case side1 => exact cS_ HR108_2 HB); (case side2 => exact HC108_2.out); (case side3 => exact cS_ HR108_4 HB); (case side4 => exact HC108_4.out); rintro e w8 ⟨rfl, hb⟩; refine ⟨_, rfl, ?_⟩; have n0_ := Aside0.mk (below_step (bw_ HB) hb); clear HB; have HB := n0_; clear n0_; (try clear hb); (try clear hb2); (try clear hk); (try clear hi)))
   go_ret
   exact ⟨eR_, bw_ HB⟩}
   {
   rw [if_neg c7] at H
   have c7b0 : decide (t109 < 0) = false := decide_eq_false c7
   clear c7
   have H' := Aside0.mk H
   clear H
   have p108 : 0 ≤ (x5_1 : Int) := dA_
   have q108 : x5_1 < (l0.length : Int) := dA_
   obtain ⟨ad108, A108_2, c108_2, A108_4, c108_4, e108, hx108_0, hx108_1, hx108_2, hx108_3, hx108_4, hl108_2, hi108_2, hl108_4, hi108_4⟩ := at_T50 HR0.out x5_1 p108 q108
   cases e108
   replace hx108_0 := hX_ HB hx108_0
   replace hx108_1 := hX_ HB hx108_1
   replace hx108_2 := hX_ HB hx108_2
   replace hx108_3 := hX_ HB hx108_3
   replace hx108_4 := hX_ HB hx108_4
   have HR108_2 := Aside0.mk hi108_2
   have HC108_2 := Aside0.mk hl108_2
   clear hi108_2 hl108_2
   have HR108_4 := Aside0.mk hi108_4
   have HC108_4 := Aside0.mk hl108_4
   clear hi108_4 hl108_4
   replace p108 := eq_true p108
   replace q108 := eq_true q108
   go_wp2_with (first | ((with_reducible refine gate_callee (f := 29) rfl ?_); refine gL_ (some 23) Tryz.func29 #[.agg #[.string ((rd_T50 l0 x5_1).f0), .string ((rd_T50 l0 x5_1).f1), .slice A108_2 ((rd_T50 l0 x5_1).f2).length c108_2, .string ((rd_T50 l0 x5_1).f3), .slice A108_4 ((rd_T50 l0 x5_1).f4).length c108_4], .int .i64 x1_1] ?_; (with_reducible refine (laws_szItem.calls k1 ((rd_T50 l0 x5_1).f0) ((rd_T50 l0 x5_1).f1) _ _ ((rd_T50 l0 x5_1).f2) ((rd_T50 l0 x5_1).f3) _ _ ((rd_T50 l0 x5_1).f4) x1_1 t109 _ ?side1 ?side2 ?side3 ?side4 A6.out).mono ?_); (case side1 => exact cS_ HR108_2 HB); (case side2 => exact HC108_2.out); (case side3 => exact cS_ HR108_4 HB); (case side4 => exact HC108_4.out); rintro e w9 ⟨rfl, hb⟩; refine ⟨_, rfl, ?_⟩; have n0_ := Aside0.mk (below_step (bw_ HB) hb); clear HB; have HB := n0_; clear n0_; (try clear hb); (try clear hb2); (try clear hk); (try clear hi)))
   go_roundg k1
   case measure => have := HK1.out; omega
   case rel => exact ⟨(t109), (wrap64 (x5_1 + 1)), (by first | rfl | (simp; done) | (simp [*]; done)), (by first | rfl | (simp; done) | (simp [*]; done)), H', ⟨by have := HK1.out; omega⟩, ⟨bw_ HB⟩⟩}}
   {
   rw [if_neg c5] at H
   exact absurd H (by simp)}}
   {
   rw [if_neg c4] at H
   have c4b0 : decide (x5_1 < (l0.length : Int)) = false := decide_eq_false c4
   (try (have c4b0' := c4b0; simp only [hl108_4] at c4b0'))
   clear c4
   obtain rfl := Option.some.inj H
   go_wp2
   go_ret
   exact ⟨eR_, bw_ HB⟩
}}
def spec_l12Paths.l0 : Nat → List (S54) → List ByteArray → Int → Option (List ByteArray)
 | 0, _, _, _ => none
 | k + 1, x0, x3, x4 => if x4 < (x0.length : Int) then (if 0 ≤ x4 then (if x3.length < 8796093022208 then (spec_l12Paths.l0 k x0 (x3 ++ [(rd_T54 x0 x4).f0]) (wrap64 (x4 + 1))) else (none)) else (none)) else (some x3)
def spec_l12Paths.f (k : Nat) (l0 : List (S54)) : Option (List ByteArray) := spec_l12Paths.l0 k l0 (([] : List ByteArray)) 0
set_option maxHeartbeats 8000000 in
set_option maxRecDepth 100000 in
theorem spec_l12Paths.calls (k : Nat) (A0 : Option Addr) (c0 : Nat) (l0 : List (S54)) (r : List ByteArray) (w : World) (hr0 : Kd.C k54 w A0 l0.length l0) (hc0 : l0.length ≤ c0) (h : spec_l12Paths.f k l0 = some r) :
 Calls Tryz.prog 30 #[.slice A0 l0.length c0] w fun e w' => ∃ v0_ : Value, e = .returned (v0_) ∧ Kd.R Kd.string 9 w' w.heap.size (fun _ => True) v0_ r ∧ Below w.heap.size w w' := by
 have HR0 := Aside0.mk hr0
 have HC0 := Aside0.mk hc0
 clear hr0 hc0
 have HB := Aside0.mk (Below.refl w.heap.size w)
 have H : (spec_l12Paths.l0 k l0 (([] : List ByteArray)) 0) = some r := h
 clear h
 obtain ⟨y110, hy110⟩ : ∃ y_ : List ByteArray, y_ = (([] : List ByteArray)) := ⟨_, rfl⟩
 replace H : (spec_l12Paths.l0 k l0 y110 0) = some r := by first | (rw [hy110]; with_reducible exact H) | (have H2_ := (Option.bind_some _ _).symm.trans H; rw [hy110]; with_reducible exact H2_) | (have H2_ := (Option.bind_some _ _).symm.trans H; with_reducible exact H2_) | with_reducible exact H | (rw [hy110]; exact H) | exact H
 have Ny110 := Aside0.mk hy110
 clear hy110
 have H' := Aside0.mk H
 clear H
 go_enter Tryz.func30, Tryz.ntmps30
 go_wp2_with (first | ((with_reducible refine gate_dst (N := 5) rfl ?_); refine Kd.R_lit Kd.string _ 9 ?hg (N := 5) ?hd (xs := ([] : List ByteArray)) (inner := []) (ok := fun _ => True) (okp := fun _ => True) ?hr ?hp (fun _ hk => hk) trivial (Below.refl _ _) (Nat.le_refl _) (by simp) ?_; (case hd => rfl); (case hg => rfl); (case hr => first | (go_simp; done) | (go_simp; rfl)); (case hp => exact (Reps.none _ _)); intro v111 w2 ho3 hb hg_ hnew_; clear hg_ hnew_; (first | rw [← Ny110.out] at ho3 | (simp only [Int.reduceToNat] at ho3; rw [← Ny110.out] at ho3)); have n0_ := Aside0.mk (Kd.R_lower ho3 (below_size (bw_ HB))); have n1_ := Aside0.mk (below_step (bw_ HB) hb); clear HB; have HO112 := n0_; have HB := n1_; clear n0_ n1_; clear hb ho3))
 go_loopg [3, 4] k (fun kq v3 v4 w' => ∃ (x3_1 : List ByteArray) (x4_1 : Int), v4 = .int .i64 x4_1 ∧ Aside0 (spec_l12Paths.l0 kq l0 x3_1 x4_1 = some r) ∧ Aside0 (kq ≤ k) ∧ Aside0 (Kd.R Kd.string 9 w' w.heap.size (fun _ => True) v3 x3_1) ∧ Aside0 (Below w.heap.size w w'))
 case atStart => exact ⟨(y110), (0), (by first | rfl | (simp; done) | (simp [*]; done)), H', ⟨Nat.le_refl _⟩, ⟨by (with_reducible repeat (first | apply Kd.R_alloc | apply Kd.R_drewN | apply Kd.R_drew)); exact HO112.out⟩, ⟨bw_ HB⟩⟩
 case round =>
  clear H'
  try clear p2
  try clear c3
  obtain ⟨x3_1, x4_1, rfl, HA, HK1, HO_3, HB⟩ := hrel
  cases gk with
  | zero => exact absurd HA.out (by simp [spec_l12Paths.l0])
  | succ k1 =>
   have H := HA.out
   clear HA
   simp only [spec_l12Paths.l0] at H
   by_cases c4 : x4_1 < (l0.length : Int)
   {
   rw [if_pos c4] at H
   have c4b0 : decide (x4_1 < (l0.length : Int)) = true := decide_eq_true c4
   clear c4
   by_cases c5 : 0 ≤ x4_1
   {
   rw [if_pos c5] at H
   have c5b0 : decide (0 ≤ x4_1) = true := decide_eq_true c5
   clear c5
   by_cases c6 : x3_1.length < 8796093022208
   {
   rw [if_pos c6] at H
   have LMc6 := Aside0.mk c6
   clear c6
   obtain ⟨y114, hy114⟩ : ∃ y_ : List ByteArray, y_ = (x3_1 ++ [(rd_T54 l0 x4_1).f0]) := ⟨_, rfl⟩
   replace H : (spec_l12Paths.l0 k1 l0 y114 (wrap64 (x4_1 + 1))) = some r := by first | (rw [hy114]; with_reducible exact H) | (have H2_ := (Option.bind_some _ _).symm.trans H; rw [hy114]; with_reducible exact H2_) | (have H2_ := (Option.bind_some _ _).symm.trans H; with_reducible exact H2_) | with_reducible exact H | (rw [hy114]; exact H) | exact H
   have Ny114 := Aside0.mk hy114
   clear hy114
   have H' := Aside0.mk H
   clear H
   have p113 : 0 ≤ (x4_1 : Int) := dA_
   have q113 : x4_1 < (l0.length : Int) := dA_
   obtain ⟨ad113, A113_2, c113_2, A113_4, c113_4, e113, hx113_0, hx113_1, hx113_2, hx113_3, hx113_4, hl113_2, hi113_2, hl113_4, hi113_4⟩ := at_T54 HR0.out x4_1 p113 q113
   cases e113
   replace hx113_0 := hX_ HB hx113_0
   replace hx113_1 := hX_ HB hx113_1
   replace hx113_2 := hX_ HB hx113_2
   replace hx113_3 := hX_ HB hx113_3
   replace hx113_4 := hX_ HB hx113_4
   have HR113_2 := Aside0.mk hi113_2
   have HC113_2 := Aside0.mk hl113_2
   clear hi113_2 hl113_2
   have HR113_4 := Aside0.mk hi113_4
   have HC113_4 := Aside0.mk hl113_4
   clear hi113_4 hl113_4
   replace p113 := eq_true p113
   replace q113 := eq_true q113
   go_wp2_with (first | ((with_reducible refine gate_builtin (b := .append) (xs := #[.tmp 12, .tmp 18]) rfl ?_); at_builtin; refine Kd.R_append Kd.string (w0 := w) w.heap.size rfl (.tmp 12) (.tmp 18) 29 9 (.string ⟨#[]⟩) 16 rfl Tryz.underlying29 info9 rfl (by decide) (by omega) u3 x3_1 ((rd_T54 l0 x4_1).f0) [.string ((rd_T54 l0 x4_1).f0)] (fun _ => True) (fun _ => False) rfl rfl ?aP (fun _ hk => hk.elim) ?aF ?aO ?aB ?aS ?aL ?_; (case aP => exact rfl); (case aB => exact (bw_ HB)); (case aF => exact (fun _ _ => trivial)); (case aO => exact (by (with_reducible repeat (first | apply Kd.R_alloc | apply Kd.R_drewN | apply Kd.R_drew)); exact HO_3.out)); (case aS => exact (below_size (bw_ HB))); (case aL => have := LMc6.out; omega); intro v115 w7 ho hb hg hat; rw [← Ny114.out] at ho; have n0_ := Aside0.mk (hb); have n1_ := Aside0.mk (ho); clear HB; clear HO_3; have HB := n0_; have HO116 := n1_; clear n0_ n1_; clear ho hb hg hat))
   go_roundg k1
   case measure => have := HK1.out; omega
   case rel => exact ⟨(y114), (wrap64 (x4_1 + 1)), (by first | rfl | (simp; done) | (simp [*]; done)), H', ⟨by have := HK1.out; omega⟩, ⟨by (with_reducible repeat (first | apply Kd.R_alloc | apply Kd.R_drewN | apply Kd.R_drew)); exact HO116.out⟩, ⟨bw_ HB⟩⟩}
   {
   rw [if_neg c6] at H
   exact absurd H (by simp)}}
   {
   rw [if_neg c5] at H
   exact absurd H (by simp)}}
   {
   rw [if_neg c4] at H
   have c4b0 : decide (x4_1 < (l0.length : Int)) = false := decide_eq_false c4
   (try (have c4b0' := c4b0; simp only [hl113_4] at c4b0'))
   clear c4
   obtain rfl := Option.some.inj H
   go_wp2
   go_ret
   exact ⟨_, eR_, by (with_reducible repeat (first | apply Kd.R_alloc | apply Kd.R_drewN | apply Kd.R_drew)); exact HO_3.out, bw_ HB⟩
}
def spec_l1Index.l0 : Nat → Int → Int → Option (Int)
 | 0, _, _ => none
 | k + 1, x0, x3 => if x3 < 32 then (if 0 ≤ x3 then (if (bt (⟨#[48, 49, 50, 51, 52, 53, 54, 55, 56, 57, 97, 98, 99, 100, 102, 103, 104, 105, 106, 107, 108, 109, 110, 112, 113, 114, 115, 118, 119, 120, 121, 122]⟩ : ByteArray) x3) = x0 then (some x3) else (spec_l1Index.l0 k x0 (wrap64 (x3 + 1)))) else (none)) else (some (-1))
def spec_l1Index.f (k : Nat) (a0 : Int) : Option (Int) := spec_l1Index.l0 k a0 0
theorem spec_l1Index.mono_l : ∀ k, (∀ y0 y1, LeO (spec_l1Index.l0 k y0 y1) (spec_l1Index.l0 (k + 1) y0 y1))
 | 0 => fun _ _ r h => by simp [spec_l1Index.l0] at h
 | k + 1 => by
  have ih0 := spec_l1Index.mono_l k
  {
  intro y0 y1
  unfold spec_l1Index.l0
  repeat' first
  | (with_reducible exact ih0 _ _)
  | (with_reducible exact LeO.refl _)
  | (with_reducible exact LeO.none _)
  | (with_reducible refine LeO.ite ?_ ?_)
  | (with_reducible refine LeO.bind ?_ (fun _ => ?_))
  | exact ih0 _ _
  | exact LeO.none _
  | refine LeO.ite ?_ ?_
  | refine LeO.bind ?_ (fun _ => ?_)}
theorem spec_l1Index.mono : ∀ a0 k, LeO (spec_l1Index.f k a0) (spec_l1Index.f (k + 1) a0) := by
 intro a0 k
 have ih0 := spec_l1Index.mono_l k
 unfold spec_l1Index.f
 repeat' first
  | (with_reducible exact ih0 _ _)
  | (with_reducible exact LeO.refl _)
  | (with_reducible exact LeO.none _)
  | (with_reducible refine LeO.ite ?_ ?_)
  | (with_reducible refine LeO.bind ?_ (fun _ => ?_))
  | exact ih0 _ _
  | exact LeO.none _
  | refine LeO.ite ?_ ?_
  | refine LeO.bind ?_ (fun _ => ?_)
set_option maxHeartbeats 8000000 in
set_option maxRecDepth 100000 in
theorem spec_l1Index.calls (k : Nat) (a0 : Int) (r : Int) (w : World) (h : spec_l1Index.f k a0 = some r) :
 Calls Tryz.prog 89 #[.int .u8 a0] w fun e w' => e = .returned (.int .i64 r) ∧ Drawn0 w w' := by
 have H : (spec_l1Index.l0 k a0 0) = some r := h
 clear h
 have H' := Aside0.mk H
 clear H
 go_enter Tryz.func89, Tryz.ntmps89
 go_wp2
 go_loopg [3] k (fun kq v3 w' => ∃ (x3_1 : Int), v3 = .int .i64 x3_1 ∧ Aside0 (spec_l1Index.l0 kq a0 x3_1 = some r) ∧ Aside0 (kq ≤ k) ∧ Drawn0 w w')
 case atStart => exact ⟨(0), (by first | rfl | (simp; done) | (simp [*]; done)), H', ⟨Nat.le_refl _⟩, dR_⟩
 case round =>
  clear H'
  obtain ⟨x3_1, rfl, HA, HK1, ⟨m1, rfl⟩⟩ := hrel
  cases gk with
  | zero => exact absurd HA.out (by simp [spec_l1Index.l0])
  | succ k1 =>
   have H := HA.out
   clear HA
   simp only [spec_l1Index.l0] at H
   by_cases c2 : x3_1 < 32
   {
   rw [if_pos c2] at H
   have c2b0 : decide (x3_1 < 32) = true := decide_eq_true c2
   clear c2
   by_cases c3 : 0 ≤ x3_1
   {
   rw [if_pos c3] at H
   have c3b0 : decide (0 ≤ x3_1) = true := decide_eq_true c3
   clear c3
   by_cases c5 : (bt (⟨#[48, 49, 50, 51, 52, 53, 54, 55, 56, 57, 97, 98, 99, 100, 102, 103, 104, 105, 106, 107, 108, 109, 110, 112, 113, 114, 115, 118, 119, 120, 121, 122]⟩ : ByteArray) x3_1) = a0
   {
   rw [if_pos c5] at H
   have c5b0 : ((bt (⟨#[48, 49, 50, 51, 52, 53, 54, 55, 56, 57, 97, 98, 99, 100, 102, 103, 104, 105, 106, 107, 108, 109, 110, 112, 113, 114, 115, 118, 119, 120, 121, 122]⟩ : ByteArray) x3_1) == a0) = true := beq_iff_eq.mpr c5
   have c5b1 : ((bt (⟨#[48, 49, 50, 51, 52, 53, 54, 55, 56, 57, 97, 98, 99, 100, 102, 103, 104, 105, 106, 107, 108, 109, 110, 112, 113, 114, 115, 118, 119, 120, 121, 122]⟩ : ByteArray) x3_1) != a0) = false := bne_eq_false_iff_eq.mpr c5
   clear c5
   obtain rfl := Option.some.inj H
   have p4 : 0 ≤ (x3_1 : Int) := dA_
   have q4 : x3_1 < (32 : Int) := dA_
   have hx4 := bt_at (⟨#[48, 49, 50, 51, 52, 53, 54, 55, 56, 57, 97, 98, 99, 100, 102, 103, 104, 105, 106, 107, 108, 109, 110, 112, 113, 114, 115, 118, 119, 120, 121, 122]⟩ : ByteArray) x3_1
   replace p4 := eq_true p4
   replace q4 := eq_true q4
   go_wp2
   go_ret
   exact ⟨eS_, dR_⟩}
   {
   rw [if_neg c5] at H
   have c5b0 : ((bt (⟨#[48, 49, 50, 51, 52, 53, 54, 55, 56, 57, 97, 98, 99, 100, 102, 103, 104, 105, 106, 107, 108, 109, 110, 112, 113, 114, 115, 118, 119, 120, 121, 122]⟩ : ByteArray) x3_1) == a0) = false := beq_eq_false_iff_ne.mpr c5
   have c5b1 : ((bt (⟨#[48, 49, 50, 51, 52, 53, 54, 55, 56, 57, 97, 98, 99, 100, 102, 103, 104, 105, 106, 107, 108, 109, 110, 112, 113, 114, 115, 118, 119, 120, 121, 122]⟩ : ByteArray) x3_1) != a0) = true := bne_iff_ne.mpr c5
   have H' := Aside0.mk H
   clear H
   have p4 : 0 ≤ (x3_1 : Int) := dA_
   have q4 : x3_1 < (32 : Int) := dA_
   have hx4 := bt_at (⟨#[48, 49, 50, 51, 52, 53, 54, 55, 56, 57, 97, 98, 99, 100, 102, 103, 104, 105, 106, 107, 108, 109, 110, 112, 113, 114, 115, 118, 119, 120, 121, 122]⟩ : ByteArray) x3_1
   replace p4 := eq_true p4
   replace q4 := eq_true q4
   go_wp2
   go_roundg k1
   case measure => have := HK1.out; omega
   case rel => exact ⟨(wrap64 (x3_1 + 1)), (by first | rfl | (simp; done) | (simp [*]; done)), H', ⟨by have := HK1.out; omega⟩, dR_⟩}}
   {
   rw [if_neg c3] at H
   exact absurd H (by simp)}}
   {
   rw [if_neg c2] at H
   have c2b0 : decide (x3_1 < 32) = false := decide_eq_false c2
   clear c2
   obtain rfl := Option.some.inj H
   go_wp2
   go_ret
   exact ⟨eS_, dR_⟩
}
end Go.Proofs.YtkhhkpjeafknpaaGreatDoor.P
end

section
namespace Go.Proofs.YtkhhkpjeafknpaaGreatDoor.P
open Go.RowKit Go.Proofs.YtkhhkpjeafknpaaGreatDoorW.PrintWords Go.Proofs.YtkhhkpjeafknpaaGreatDoorW.PrintLast Go.Proofs.YtkhhkpjeafknpaaGreatDoorW.PrintMore Go.Proofs.YtkhhkpjeafknpaaGreatDoorM
attribute [local go_sem] max2_int min2_int max_two min_two max_three min_three max_four min_four
set_option linter.unusedVariables false
set_option linter.unusedSimpArgs false
def spec_ReadWord32.l0 : Nat → ByteArray → Int → Int → Option (Int × Bool)
 | 0, _, _, _ => none
 | k + 1, x0, x4, x5 => if x5 < 13 then (if 0 ≤ x5 then (if x5 < (x0.size : Int) then ((spec_l1Index.f k (bt x0 x5)).bind fun t117 => (if t117 < 0 then (some (0, false)) else (if x5 = 0 then (if t117 > 15 then (some (0, false)) else (spec_ReadWord32.l0 k x0 (IntKind.u64.wrap ((IntKind.u64.wrap (x4 * 32)) + (IntKind.u64.wrap (t117)))) (wrap64 (x5 + 1)))) else (spec_ReadWord32.l0 k x0 (IntKind.u64.wrap ((IntKind.u64.wrap (x4 * 32)) + (IntKind.u64.wrap (t117)))) (wrap64 (x5 + 1)))))) else (none)) else (none)) else (some (x4, true))
def spec_ReadWord32.f (k : Nat) (a0 : ByteArray) : Option (Int × Bool) := if (a0.size : Int) = 13 then (spec_ReadWord32.l0 k a0 0 0) else (some (0, false))
set_option maxHeartbeats 8000000 in
set_option maxRecDepth 100000 in
theorem spec_ReadWord32.calls (k : Nat) (a0 : ByteArray) (r1 : Int) (r2 : Bool) (w : World) (h : spec_ReadWord32.f k a0 = some (r1, r2)) :
 Calls Tryz.prog 67 #[.string a0] w fun e w' => e = .returned (.tuple #[.int .u64 r1, .bool r2]) ∧ Drawn0 w w' := by
 have H : (if (a0.size : Int) = 13 then (spec_ReadWord32.l0 k a0 0 0) else (some (0, false))) = some (r1, r2) := h
 clear h
 by_cases c2 : (a0.size : Int) = 13
 {
 rw [if_pos c2] at H
 have c2b0 : ((a0.size : Int) == 13) = true := beq_iff_eq.mpr c2
 have c2b1 : ((a0.size : Int) != 13) = false := bne_eq_false_iff_eq.mpr c2
 clear c2
 have H' := Aside0.mk H
 clear H
 go_enter Tryz.func67, Tryz.ntmps67
 go_wp2
 go_loopg [4, 5] k (fun kq v4 v5 w' => ∃ (x4_1 : Int) (x5_1 : Int), v4 = .int .u64 x4_1 ∧ v5 = .int .i64 x5_1 ∧ Aside0 (spec_ReadWord32.l0 kq a0 x4_1 x5_1 = some (r1, r2)) ∧ Aside0 (kq ≤ k) ∧ Drawn0 w w')
 case atStart => exact ⟨(0), (0), (by first | rfl | (simp; done) | (simp [*]; done)), (by first | rfl | (simp; done) | (simp [*]; done)), H', ⟨Nat.le_refl _⟩, dR_⟩
 case round =>
  clear H'
  try clear c2
  try clear c2b0
  try clear c2b1
  try clear p2
  obtain ⟨x4_1, x5_1, rfl, rfl, HA, HK1, ⟨m1, rfl⟩⟩ := hrel
  cases gk with
  | zero => exact absurd HA.out (by simp [spec_ReadWord32.l0])
  | succ k1 =>
   have H := HA.out
   clear HA
   simp only [spec_ReadWord32.l0] at H
   by_cases c3 : x5_1 < 13
   {
   rw [if_pos c3] at H
   have c3b0 : decide (x5_1 < 13) = true := decide_eq_true c3
   clear c3
   by_cases c4 : 0 ≤ x5_1
   {
   rw [if_pos c4] at H
   have c4b0 : decide (0 ≤ x5_1) = true := decide_eq_true c4
   clear c4
   by_cases c5 : x5_1 < (a0.size : Int)
   {
   rw [if_pos c5] at H
   have c5b0 : decide (x5_1 < (a0.size : Int)) = true := decide_eq_true c5
   clear c5
   replace H := Option.bind_eq_some_iff.mp H
   obtain ⟨t117, A70, H⟩ := H
   have A7 := Aside0.mk A70
   clear A70
   by_cases c8 : t117 < 0
   {
   rw [if_pos c8] at H
   have c8b0 : decide (t117 < 0) = true := decide_eq_true c8
   clear c8
   simp only [Option.some.injEq, Prod.mk.injEq] at H
   obtain ⟨rfl, rfl⟩ := H
   have p6 : 0 ≤ (x5_1 : Int) := dA_
   have q6 : x5_1 < (a0.size : Int) := dA_
   have hx6 := bt_at a0 x5_1
   replace p6 := eq_true p6
   replace q6 := eq_true q6
   go_wp2_with (first | ((with_reducible refine gate_callee (f := 89) rfl ?_); refine gL_ (some 17) Tryz.func89 #[.int .u8 (bt a0 x5_1)] ?_; (with_reducible refine (spec_l1Index.calls k1 (bt a0 x5_1) t117 _ A7.out).mono ?_); rintro e w' ⟨rfl, ⟨nd, rfl⟩⟩; refine ⟨_, rfl, ?_⟩))
   go_ret2
   exact ⟨eS_, dR_⟩}
   {
   rw [if_neg c8] at H
   have c8b0 : decide (t117 < 0) = false := decide_eq_false c8
   clear c8
   by_cases c9 : x5_1 = 0
   {
   rw [if_pos c9] at H
   have c9b0 : (x5_1 == 0) = true := beq_iff_eq.mpr c9
   have c9b1 : (x5_1 != 0) = false := bne_eq_false_iff_eq.mpr c9
   clear c9
   by_cases c10 : t117 > 15
   {
   rw [if_pos c10] at H
   have c10b0 : decide (15 < t117) = true := decide_eq_true c10
   clear c10
   simp only [Option.some.injEq, Prod.mk.injEq] at H
   obtain ⟨rfl, rfl⟩ := H
   have p6 : 0 ≤ (x5_1 : Int) := dA_
   have q6 : x5_1 < (a0.size : Int) := dA_
   have hx6 := bt_at a0 x5_1
   replace p6 := eq_true p6
   replace q6 := eq_true q6
   go_wp2_with (first | ((with_reducible refine gate_callee (f := 89) rfl ?_); refine gL_ (some 17) Tryz.func89 #[.int .u8 (bt a0 x5_1)] ?_; (with_reducible refine (spec_l1Index.calls k1 (bt a0 x5_1) t117 _ A7.out).mono ?_); rintro e w' ⟨rfl, ⟨nd, rfl⟩⟩; refine ⟨_, rfl, ?_⟩))
   go_ret2
   exact ⟨eS_, dR_⟩}
   {
   rw [if_neg c10] at H
   have c10b0 : decide (15 < t117) = false := decide_eq_false c10
   clear c10
   have H' := Aside0.mk H
   clear H
   have p6 : 0 ≤ (x5_1 : Int) := dA_
   have q6 : x5_1 < (a0.size : Int) := dA_
   have hx6 := bt_at a0 x5_1
   replace p6 := eq_true p6
   replace q6 := eq_true q6
   go_wp2_with (first | ((with_reducible refine gate_callee (f := 89) rfl ?_); refine gL_ (some 17) Tryz.func89 #[.int .u8 (bt a0 x5_1)] ?_; (with_reducible refine (spec_l1Index.calls k1 (bt a0 x5_1) t117 _ A7.out).mono ?_); rintro e w' ⟨rfl, ⟨nd, rfl⟩⟩; refine ⟨_, rfl, ?_⟩))
   go_roundg k1
   case measure => have := HK1.out; omega
   case rel => exact ⟨(IntKind.u64.wrap ((IntKind.u64.wrap (x4_1 * 32)) + (IntKind.u64.wrap (t117)))), (wrap64 (x5_1 + 1)), (by first | rfl | (simp; done) | (simp [*]; done)), (by first | rfl | (simp; done) | (simp [*]; done)), H', ⟨by have := HK1.out; omega⟩, dR_⟩}}
   {
   rw [if_neg c9] at H
   have c9b0 : (x5_1 == 0) = false := beq_eq_false_iff_ne.mpr c9
   have c9b1 : (x5_1 != 0) = true := bne_iff_ne.mpr c9
   have H' := Aside0.mk H
   clear H
   have p6 : 0 ≤ (x5_1 : Int) := dA_
   have q6 : x5_1 < (a0.size : Int) := dA_
   have hx6 := bt_at a0 x5_1
   replace p6 := eq_true p6
   replace q6 := eq_true q6
   go_wp2_with (first | ((with_reducible refine gate_callee (f := 89) rfl ?_); refine gL_ (some 17) Tryz.func89 #[.int .u8 (bt a0 x5_1)] ?_; (with_reducible refine (spec_l1Index.calls k1 (bt a0 x5_1) t117 _ A7.out).mono ?_); rintro e w' ⟨rfl, ⟨nd, rfl⟩⟩; refine ⟨_, rfl, ?_⟩))
   go_roundg k1
   case measure => have := HK1.out; omega
   case rel => exact ⟨(IntKind.u64.wrap ((IntKind.u64.wrap (x4_1 * 32)) + (IntKind.u64.wrap (t117)))), (wrap64 (x5_1 + 1)), (by first | rfl | (simp; done) | (simp [*]; done)), (by first | rfl | (simp; done) | (simp [*]; done)), H', ⟨by have := HK1.out; omega⟩, dR_⟩}}}
   {
   rw [if_neg c5] at H
   exact absurd H (by simp)}}
   {
   rw [if_neg c4] at H
   exact absurd H (by simp)}}
   {
   rw [if_neg c3] at H
   have c3b0 : decide (x5_1 < 13) = false := decide_eq_false c3
   clear c3
   simp only [Option.some.injEq, Prod.mk.injEq] at H
   obtain ⟨rfl, rfl⟩ := H
   go_wp2
   go_ret2
   exact ⟨eS_, dR_⟩}}
 {
 rw [if_neg c2] at H
 have c2b0 : ((a0.size : Int) == 13) = false := beq_eq_false_iff_ne.mpr c2
 have c2b1 : ((a0.size : Int) != 13) = true := bne_iff_ne.mpr c2
 simp only [Option.some.injEq, Prod.mk.injEq] at H
 obtain ⟨rfl, rfl⟩ := H
 go_enter Tryz.func67, Tryz.ntmps67
 go_wp2
 go_ret2
 exact ⟨eS_, dR_⟩
}
def spec_l1Letter.f (a0 : Int) : Option (Bool) := if a0 ≥ 97 then (if a0 ≤ 122 then (some true) else (if a0 ≥ 65 then (some (decide (a0 ≤ 90))) else (some false))) else (if a0 ≥ 65 then (some (decide (a0 ≤ 90))) else (some false))
set_option maxHeartbeats 8000000 in
set_option maxRecDepth 100000 in
theorem spec_l1Letter.calls (a0 : Int) (r : Bool) (w : World) (h : spec_l1Letter.f a0 = some r) :
 Calls Tryz.prog 90 #[.int .u8 a0] w fun e w' => e = .returned (.bool r) ∧ Drawn0 w w' := by
 have H : (if a0 ≥ 97 then (if a0 ≤ 122 then (some true) else (if a0 ≥ 65 then (some (decide (a0 ≤ 90))) else (some false))) else (if a0 ≥ 65 then (some (decide (a0 ≤ 90))) else (some false))) = some r := h
 clear h
 by_cases c2 : a0 ≥ 97
 {
 rw [if_pos c2] at H
 have c2b0 : decide (97 ≤ a0) = true := decide_eq_true c2
 clear c2
 by_cases c3 : a0 ≤ 122
 {
 rw [if_pos c3] at H
 have c3b0 : decide (a0 ≤ 122) = true := decide_eq_true c3
 clear c3
 obtain rfl := Option.some.inj H
 go_enter Tryz.func90, Tryz.ntmps90
 go_wp2
 go_ret
 exact ⟨eS_, dR_⟩}
 {
 rw [if_neg c3] at H
 have c3b0 : decide (a0 ≤ 122) = false := decide_eq_false c3
 clear c3
 by_cases c4 : a0 ≥ 65
 {
 rw [if_pos c4] at H
 have c4b0 : decide (65 ≤ a0) = true := decide_eq_true c4
 clear c4
 obtain rfl := Option.some.inj H
 go_enter Tryz.func90, Tryz.ntmps90
 go_wp2
 go_ret
 exact ⟨eS_, dR_⟩}
 {
 rw [if_neg c4] at H
 have c4b0 : decide (65 ≤ a0) = false := decide_eq_false c4
 clear c4
 obtain rfl := Option.some.inj H
 go_enter Tryz.func90, Tryz.ntmps90
 go_wp2
 go_ret
 exact ⟨eS_, dR_⟩}}}
 {
 rw [if_neg c2] at H
 have c2b0 : decide (97 ≤ a0) = false := decide_eq_false c2
 clear c2
 by_cases c5 : a0 ≥ 65
 {
 rw [if_pos c5] at H
 have c5b0 : decide (65 ≤ a0) = true := decide_eq_true c5
 clear c5
 obtain rfl := Option.some.inj H
 go_enter Tryz.func90, Tryz.ntmps90
 go_wp2
 go_ret
 exact ⟨eS_, dR_⟩}
 {
 rw [if_neg c5] at H
 have c5b0 : decide (65 ≤ a0) = false := decide_eq_false c5
 clear c5
 obtain rfl := Option.some.inj H
 go_enter Tryz.func90, Tryz.ntmps90
 go_wp2
 go_ret
 exact ⟨eS_, dR_⟩
}}
def spec_l1Digit.f (a0 : Int) : Option (Bool) := if a0 ≥ 48 then (some (decide (a0 ≤ 57))) else (some false)
set_option maxHeartbeats 8000000 in
set_option maxRecDepth 100000 in
theorem spec_l1Digit.calls (a0 : Int) (r : Bool) (w : World) (h : spec_l1Digit.f a0 = some r) :
 Calls Tryz.prog 91 #[.int .u8 a0] w fun e w' => e = .returned (.bool r) ∧ Drawn0 w w' := by
 have H : (if a0 ≥ 48 then (some (decide (a0 ≤ 57))) else (some false)) = some r := h
 clear h
 by_cases c2 : a0 ≥ 48
 {
 rw [if_pos c2] at H
 have c2b0 : decide (48 ≤ a0) = true := decide_eq_true c2
 clear c2
 obtain rfl := Option.some.inj H
 go_enter Tryz.func91, Tryz.ntmps91
 go_wp2
 go_ret
 exact ⟨eS_, dR_⟩}
 {
 rw [if_neg c2] at H
 have c2b0 : decide (48 ≤ a0) = false := decide_eq_false c2
 clear c2
 obtain rfl := Option.some.inj H
 go_enter Tryz.func91, Tryz.ntmps91
 go_wp2
 go_ret
 exact ⟨eS_, dR_⟩
}
end Go.Proofs.YtkhhkpjeafknpaaGreatDoor.P
end

section
namespace Go.Proofs.YtkhhkpjeafknpaaGreatDoor.P
open Go.RowKit Go.Proofs.YtkhhkpjeafknpaaGreatDoorW.PrintWords Go.Proofs.YtkhhkpjeafknpaaGreatDoorW.PrintLast Go.Proofs.YtkhhkpjeafknpaaGreatDoorW.PrintMore Go.Proofs.YtkhhkpjeafknpaaGreatDoorM
attribute [local go_sem] max2_int min2_int max_two min_two max_three min_three max_four min_four
set_option linter.unusedVariables false
set_option linter.unusedSimpArgs false
mutual
def spec_NameOk.j0 : Nat → ByteArray → Bool → Option (Bool)
 | 0, _, _ => none
 | k + 1, x0, x17 => if x17 = true then (some false) else (spec_NameOk.l0 k x0 0)
def spec_NameOk.l0 : Nat → ByteArray → Int → Option (Bool)
 | 0, _, _ => none
 | k + 1, x0, x3 => if x3 < (x0.size : Int) then (if 0 ≤ x3 then ((spec_l1Letter.f (bt x0 x3)).bind fun t118 => (if t118 = true then (spec_NameOk.l0 k x0 (wrap64 (x3 + 1))) else ((spec_l1Digit.f (bt x0 x3)).bind fun t119 => (if t119 = true then (spec_NameOk.l0 k x0 (wrap64 (x3 + 1))) else (if (bt x0 x3) = 45 then (spec_NameOk.l0 k x0 (wrap64 (x3 + 1))) else (if (bt x0 x3) = 95 then (spec_NameOk.l0 k x0 (wrap64 (x3 + 1))) else (if (bt x0 x3) = 46 then (spec_NameOk.l0 k x0 (wrap64 (x3 + 1))) else (if (bt x0 x3) = 43 then (spec_NameOk.l0 k x0 (wrap64 (x3 + 1))) else (some false))))))))) else (none)) else (some true)
end
def spec_NameOk.f (k : Nat) (a0 : ByteArray) : Option (Bool) := if (a0.size : Int) < 1 then (spec_NameOk.j0 k a0 true) else (if (a0.size : Int) > 60 then (spec_NameOk.j0 k a0 true) else (if 0 < (a0.size : Int) then (spec_NameOk.j0 k a0 ((bt a0 0) == 46)) else (none)))
set_option maxHeartbeats 8000000 in
set_option maxRecDepth 100000 in
theorem spec_NameOk.calls (k : Nat) (a0 : ByteArray) (r : Bool) (w : World) (h : spec_NameOk.f k a0 = some r) :
 Calls Tryz.prog 68 #[.string a0] w fun e w' => e = .returned (.bool r) ∧ Drawn0 w w' := by
 have H : (if (a0.size : Int) < 1 then (spec_NameOk.j0 k a0 true) else (if (a0.size : Int) > 60 then (spec_NameOk.j0 k a0 true) else (if 0 < (a0.size : Int) then (spec_NameOk.j0 k a0 ((bt a0 0) == 46)) else (none)))) = some r := h
 clear h
 have HC2 := Aside0.mk H
 clear H
 go_enter Tryz.func68, Tryz.ntmps68
 go_upto_region 1 with (fail)
 go_cut [17] (fun v17 wc => ∃ (kq : Nat) (x17_1 : Bool), v17 = .bool x17_1 ∧ Aside0 (spec_NameOk.j0 kq a0 x17_1 = some r) ∧ Aside0 (kq ≤ k) ∧ Drawn0 w wc)
 case first =>
  have H := HC2.out
  clear HC2
  by_cases c3 : (a0.size : Int) < 1
  {
  rw [if_pos c3] at H
  have c3b0 : decide ((a0.size : Int) < 1) = true := decide_eq_true c3
  have c3b1 : decide (a0.size < 1) = true := decide_eq_true (by omega)
  clear c3
  (first | rw [c3b0] | (simp only [i64_w, i32_w]; rw [c3b0]) | skip)
  have H' := Aside0.mk H
  clear H
  go_wp2
  go_meet
  case rel => exact ⟨_, (true), (by first | rfl | (simp; done) | (simp [*]; done)), H', ⟨by first | omega | exact Nat.le_refl _⟩, dR_⟩}
  {
  rw [if_neg c3] at H
  have c3b0 : decide ((a0.size : Int) < 1) = false := decide_eq_false c3
  have c3b1 : decide (a0.size < 1) = false := decide_eq_false (by omega)
  clear c3
  (first | rw [c3b0] | (simp only [i64_w, i32_w]; rw [c3b0]) | skip)
  by_cases c4 : (a0.size : Int) > 60
  {
  rw [if_pos c4] at H
  have c4b0 : decide (60 < (a0.size : Int)) = true := decide_eq_true c4
  have c4b1 : decide (60 < a0.size) = true := decide_eq_true (by omega)
  clear c4
  have H' := Aside0.mk H
  clear H
  go_wp2
  go_meet
  case rel => exact ⟨_, (true), (by first | rfl | (simp; done) | (simp [*]; done)), H', ⟨by first | omega | exact Nat.le_refl _⟩, dR_⟩}
  {
  rw [if_neg c4] at H
  have c4b0 : decide (60 < (a0.size : Int)) = false := decide_eq_false c4
  have c4b1 : decide (60 < a0.size) = false := decide_eq_false (by omega)
  clear c4
  by_cases c5 : 0 < (a0.size : Int)
  {
  rw [if_pos c5] at H
  have c5b0 : decide (0 < (a0.size : Int)) = true := decide_eq_true c5
  have c5b1 : decide (0 < a0.size) = true := decide_eq_true (by omega)
  clear c5
  have H' := Aside0.mk H
  clear H
  have p6 : 0 ≤ (0 : Int) := (by omega)
  have q6 : 0 < a0.size := (by have : (0 : Int) < (a0.size : Int) := dA_; omega)
  have hx6 : ∀ h : 0 < a0.size, ((a0[0]'h).toNat : Int) = bt a0 0 := bt_at a0 0
  clear p6
  have qi6 : (0 < (a0.size : Int)) = True := eq_true (dA_)
  replace q6 := eq_true q6
  go_wp2
  go_meet
  case rel => exact ⟨_, (((bt a0 0) == 46)), (by first | rfl | (simp; done) | (simp [*]; done)), H', ⟨by first | omega | exact Nat.le_refl _⟩, dR_⟩}
  {
  rw [if_neg c5] at H
  exact absurd H (by simp)}}}
 case rest =>
  clear HC2
  try clear p2
  try clear c3
  try clear c3b0
  try clear c3b1
  try clear c4
  try clear c4b0
  try clear c4b1
  try clear c5
  try clear c5b0
  try clear c5b1
  try clear c6
  try clear p6
  try clear q6
  try clear hx6
  try clear qi6
  try clear p6
  try clear q6
  obtain ⟨kq, x17_1, rfl, HA, HJ1, ⟨mc1, rfl⟩⟩ := hcut
  cases kq with
  | zero => exact absurd HA.out (by simp [spec_NameOk.j0])
  | succ kj1 =>
   have H := HA.out
   clear HA
   simp only [spec_NameOk.j0] at H
   by_cases c7 : x17_1 = true
   {
   subst c7
   rw [if_pos rfl] at H
   obtain rfl := Option.some.inj H
   go_wp2
   go_ret
   exact ⟨eS_, dR_⟩}
   {
   replace c7 := Bool.eq_false_iff.mpr c7
   subst c7
   rw [if_neg (show ¬ (false = true) by decide)] at H
   have H' := Aside0.mk H
   clear H
   go_wp2
   go_loopg [3] kj1 (fun kq v3 w' => ∃ (x3_2 : Int), v3 = .int .i64 x3_2 ∧ Aside0 (spec_NameOk.l0 kq a0 x3_2 = some r) ∧ Aside0 (kq ≤ kj1) ∧ Drawn0 w w')
   case atStart => exact ⟨(0), (by first | rfl | (simp; done) | (simp [*]; done)), H', ⟨Nat.le_refl _⟩, dR_⟩
   case round =>
    clear H'
    try clear c1
    try clear p2
    try clear c3
    try clear c3b0
    try clear c3b1
    try clear c4
    try clear c4b0
    try clear c4b1
    try clear c5
    try clear c5b0
    try clear c5b1
    try clear c6
    try clear p6
    try clear q6
    try clear hx6
    try clear qi6
    try clear c7
    try clear p2
    try clear p6
    try clear q6
    obtain ⟨x3_2, rfl, HA, HK2, ⟨m2, rfl⟩⟩ := hrel
    cases gk with
    | zero => exact absurd HA.out (by simp [spec_NameOk.l0])
    | succ k2 =>
     have H := HA.out
     clear HA
     simp only [spec_NameOk.l0] at H
     by_cases c8 : x3_2 < (a0.size : Int)
     {
     rw [if_pos c8] at H
     have c8b0 : decide (x3_2 < (a0.size : Int)) = true := decide_eq_true c8
     clear c8
     by_cases c9 : 0 ≤ x3_2
     {
     rw [if_pos c9] at H
     have c9b0 : decide (0 ≤ x3_2) = true := decide_eq_true c9
     clear c9
     replace H := Option.bind_eq_some_iff.mp H
     obtain ⟨t118, A110, H⟩ := H
     have A11 := Aside0.mk A110
     clear A110
     by_cases c12 : t118 = true
     {
     subst c12
     rw [if_pos rfl] at H
     have H' := Aside0.mk H
     clear H
     have p10 : 0 ≤ (x3_2 : Int) := dA_
     have q10 : x3_2 < (a0.size : Int) := dA_
     have hx10 := bt_at a0 x3_2
     replace p10 := eq_true p10
     replace q10 := eq_true q10
     go_wp2_with (first | ((with_reducible refine gate_callee (f := 90) rfl ?_); refine gL_ (some 28) Tryz.func90 #[.int .u8 (bt a0 x3_2)] ?_; (with_reducible refine (spec_l1Letter.calls (bt a0 x3_2) true _ A11.out).mono ?_); rintro e w' ⟨rfl, ⟨nd, rfl⟩⟩; refine ⟨_, rfl, ?_⟩))
     go_roundg k2
     case measure => have := HJ1.out; have := HK2.out; omega
     case rel => exact ⟨(wrap64 (x3_2 + 1)), (by first | rfl | (simp; done) | (simp [*]; done)), H', ⟨by have := HJ1.out; have := HK2.out; omega⟩, dR_⟩}
     {
     replace c12 := Bool.eq_false_iff.mpr c12
     subst c12
     rw [if_neg (show ¬ (false = true) by decide)] at H
     replace H := Option.bind_eq_some_iff.mp H
     obtain ⟨t119, A130, H⟩ := H
     have A13 := Aside0.mk A130
     clear A130
     by_cases c14 : t119 = true
     {
     subst c14
     rw [if_pos rfl] at H
     have H' := Aside0.mk H
     clear H
     have p10 : 0 ≤ (x3_2 : Int) := dA_
     have q10 : x3_2 < (a0.size : Int) := dA_
     have hx10 := bt_at a0 x3_2
     replace p10 := eq_true p10
     replace q10 := eq_true q10
     go_wp2_with (first | ((with_reducible refine gate_callee (f := 90) rfl ?_); refine gL_ (some 28) Tryz.func90 #[.int .u8 (bt a0 x3_2)] ?_; (with_reducible refine (spec_l1Letter.calls (bt a0 x3_2) false _ A11.out).mono ?_); rintro e w' ⟨rfl, ⟨nd, rfl⟩⟩; refine ⟨_, rfl, ?_⟩) | (go_at_call 91; (with_reducible refine (spec_l1Digit.calls (bt a0 x3_2) true _ A13.out).mono ?_); rintro e w' ⟨rfl, ⟨nd, rfl⟩⟩))
     go_roundg k2
     case measure => have := HJ1.out; have := HK2.out; omega
     case rel => exact ⟨(wrap64 (x3_2 + 1)), (by first | rfl | (simp; done) | (simp [*]; done)), H', ⟨by have := HJ1.out; have := HK2.out; omega⟩, dR_⟩}
     {
     replace c14 := Bool.eq_false_iff.mpr c14
     subst c14
     rw [if_neg (show ¬ (false = true) by decide)] at H
     by_cases c15 : (bt a0 x3_2) = 45
     {
     rw [if_pos c15] at H
     have c15b0 : ((bt a0 x3_2) == 45) = true := beq_iff_eq.mpr c15
     have c15b1 : ((bt a0 x3_2) != 45) = false := bne_eq_false_iff_eq.mpr c15
     clear c15
     have H' := Aside0.mk H
     clear H
     have p10 : 0 ≤ (x3_2 : Int) := dA_
     have q10 : x3_2 < (a0.size : Int) := dA_
     have hx10 := bt_at a0 x3_2
     replace p10 := eq_true p10
     replace q10 := eq_true q10
     go_wp2_with (first | ((with_reducible refine gate_callee (f := 90) rfl ?_); refine gL_ (some 28) Tryz.func90 #[.int .u8 (bt a0 x3_2)] ?_; (with_reducible refine (spec_l1Letter.calls (bt a0 x3_2) false _ A11.out).mono ?_); rintro e w' ⟨rfl, ⟨nd, rfl⟩⟩; refine ⟨_, rfl, ?_⟩) | (go_at_call 91; (with_reducible refine (spec_l1Digit.calls (bt a0 x3_2) false _ A13.out).mono ?_); rintro e w' ⟨rfl, ⟨nd, rfl⟩⟩))
     go_roundg k2
     case measure => have := HJ1.out; have := HK2.out; omega
     case rel => exact ⟨(wrap64 (x3_2 + 1)), (by first | rfl | (simp; done) | (simp [*]; done)), H', ⟨by have := HJ1.out; have := HK2.out; omega⟩, dR_⟩}
     {
     rw [if_neg c15] at H
     have c15b0 : ((bt a0 x3_2) == 45) = false := beq_eq_false_iff_ne.mpr c15
     have c15b1 : ((bt a0 x3_2) != 45) = true := bne_iff_ne.mpr c15
     by_cases c16 : (bt a0 x3_2) = 95
     {
     rw [if_pos c16] at H
     have c16b0 : ((bt a0 x3_2) == 95) = true := beq_iff_eq.mpr c16
     have c16b1 : ((bt a0 x3_2) != 95) = false := bne_eq_false_iff_eq.mpr c16
     clear c16
     have H' := Aside0.mk H
     clear H
     have p10 : 0 ≤ (x3_2 : Int) := dA_
     have q10 : x3_2 < (a0.size : Int) := dA_
     have hx10 := bt_at a0 x3_2
     replace p10 := eq_true p10
     replace q10 := eq_true q10
     go_wp2_with (first | ((with_reducible refine gate_callee (f := 90) rfl ?_); refine gL_ (some 28) Tryz.func90 #[.int .u8 (bt a0 x3_2)] ?_; (with_reducible refine (spec_l1Letter.calls (bt a0 x3_2) false _ A11.out).mono ?_); rintro e w' ⟨rfl, ⟨nd, rfl⟩⟩; refine ⟨_, rfl, ?_⟩) | (go_at_call 91; (with_reducible refine (spec_l1Digit.calls (bt a0 x3_2) false _ A13.out).mono ?_); rintro e w' ⟨rfl, ⟨nd, rfl⟩⟩))
     go_roundg k2
     case measure => have := HJ1.out; have := HK2.out; omega
     case rel => exact ⟨(wrap64 (x3_2 + 1)), (by first | rfl | (simp; done) | (simp [*]; done)), H', ⟨by have := HJ1.out; have := HK2.out; omega⟩, dR_⟩}
     {
     rw [if_neg c16] at H
     have c16b0 : ((bt a0 x3_2) == 95) = false := beq_eq_false_iff_ne.mpr c16
     have c16b1 : ((bt a0 x3_2) != 95) = true := bne_iff_ne.mpr c16
     by_cases c17 : (bt a0 x3_2) = 46
     {
     rw [if_pos c17] at H
     have c17b0 : ((bt a0 x3_2) == 46) = true := beq_iff_eq.mpr c17
     have c17b1 : ((bt a0 x3_2) != 46) = false := bne_eq_false_iff_eq.mpr c17
     clear c17
     have H' := Aside0.mk H
     clear H
     have p10 : 0 ≤ (x3_2 : Int) := dA_
     have q10 : x3_2 < (a0.size : Int) := dA_
     have hx10 := bt_at a0 x3_2
     replace p10 := eq_true p10
     replace q10 := eq_true q10
     go_wp2_with (first | ((with_reducible refine gate_callee (f := 90) rfl ?_); refine gL_ (some 28) Tryz.func90 #[.int .u8 (bt a0 x3_2)] ?_; (with_reducible refine (spec_l1Letter.calls (bt a0 x3_2) false _ A11.out).mono ?_); rintro e w' ⟨rfl, ⟨nd, rfl⟩⟩; refine ⟨_, rfl, ?_⟩) | (go_at_call 91; (with_reducible refine (spec_l1Digit.calls (bt a0 x3_2) false _ A13.out).mono ?_); rintro e w' ⟨rfl, ⟨nd, rfl⟩⟩))
     go_roundg k2
     case measure => have := HJ1.out; have := HK2.out; omega
     case rel => exact ⟨(wrap64 (x3_2 + 1)), (by first | rfl | (simp; done) | (simp [*]; done)), H', ⟨by have := HJ1.out; have := HK2.out; omega⟩, dR_⟩}
     {
     rw [if_neg c17] at H
     have c17b0 : ((bt a0 x3_2) == 46) = false := beq_eq_false_iff_ne.mpr c17
     have c17b1 : ((bt a0 x3_2) != 46) = true := bne_iff_ne.mpr c17
     by_cases c18 : (bt a0 x3_2) = 43
     {
     rw [if_pos c18] at H
     have c18b0 : ((bt a0 x3_2) == 43) = true := beq_iff_eq.mpr c18
     have c18b1 : ((bt a0 x3_2) != 43) = false := bne_eq_false_iff_eq.mpr c18
     clear c18
     have H' := Aside0.mk H
     clear H
     have p10 : 0 ≤ (x3_2 : Int) := dA_
     have q10 : x3_2 < (a0.size : Int) := dA_
     have hx10 := bt_at a0 x3_2
     replace p10 := eq_true p10
     replace q10 := eq_true q10
     go_wp2_with (first | ((with_reducible refine gate_callee (f := 90) rfl ?_); refine gL_ (some 28) Tryz.func90 #[.int .u8 (bt a0 x3_2)] ?_; (with_reducible refine (spec_l1Letter.calls (bt a0 x3_2) false _ A11.out).mono ?_); rintro e w' ⟨rfl, ⟨nd, rfl⟩⟩; refine ⟨_, rfl, ?_⟩) | (go_at_call 91; (with_reducible refine (spec_l1Digit.calls (bt a0 x3_2) false _ A13.out).mono ?_); rintro e w' ⟨rfl, ⟨nd, rfl⟩⟩))
     go_roundg k2
     case measure => have := HJ1.out; have := HK2.out; omega
     case rel => exact ⟨(wrap64 (x3_2 + 1)), (by first | rfl | (simp; done) | (simp [*]; done)), H', ⟨by have := HJ1.out; have := HK2.out; omega⟩, dR_⟩}
     {
     rw [if_neg c18] at H
     have c18b0 : ((bt a0 x3_2) == 43) = false := beq_eq_false_iff_ne.mpr c18
     have c18b1 : ((bt a0 x3_2) != 43) = true := bne_iff_ne.mpr c18
     obtain rfl := Option.some.inj H
     have p10 : 0 ≤ (x3_2 : Int) := dA_
     have q10 : x3_2 < (a0.size : Int) := dA_
     have hx10 := bt_at a0 x3_2
     replace p10 := eq_true p10
     replace q10 := eq_true q10
     go_wp2_with (first | ((with_reducible refine gate_callee (f := 90) rfl ?_); refine gL_ (some 28) Tryz.func90 #[.int .u8 (bt a0 x3_2)] ?_; (with_reducible refine (spec_l1Letter.calls (bt a0 x3_2) false _ A11.out).mono ?_); rintro e w' ⟨rfl, ⟨nd, rfl⟩⟩; refine ⟨_, rfl, ?_⟩) | (go_at_call 91; (with_reducible refine (spec_l1Digit.calls (bt a0 x3_2) false _ A13.out).mono ?_); rintro e w' ⟨rfl, ⟨nd, rfl⟩⟩))
     go_ret
     exact ⟨eS_, dR_⟩}}}}}}}
     {
     rw [if_neg c9] at H
     exact absurd H (by simp)}}
     {
     rw [if_neg c8] at H
     have c8b0 : decide (x3_2 < (a0.size : Int)) = false := decide_eq_false c8
     clear c8
     obtain rfl := Option.some.inj H
     go_wp2
     go_ret
     exact ⟨eS_, dR_⟩
}}
end Go.Proofs.YtkhhkpjeafknpaaGreatDoor.P
end

section
namespace Go.Proofs.YtkhhkpjeafknpaaGreatDoor.P
open Go.RowKit Go.Proofs.YtkhhkpjeafknpaaGreatDoorW.PrintWords Go.Proofs.YtkhhkpjeafknpaaGreatDoorW.PrintLast Go.Proofs.YtkhhkpjeafknpaaGreatDoorW.PrintMore Go.Proofs.YtkhhkpjeafknpaaGreatDoorM
attribute [local go_sem] max2_int min2_int max_two min_two max_three min_three max_four min_four
set_option linter.unusedVariables false
set_option linter.unusedSimpArgs false
def impl_upper.f (a0 : ByteArray) : Option (ByteArray × Bool) := (strings_LastIndexByte.f a0 47).bind fun t347 => (if t347 < 0 then (some ((⟨#[]⟩ : ByteArray), false)) else (if 0 ≤ t347 then (if t347 ≤ (a0.size : Int) then (some (a0.extract 0 (t347 : Int).toNat, true)) else (none)) else (none)))
set_option maxHeartbeats 8000000 in
set_option maxRecDepth 100000 in
theorem impl_upper.calls (a0 : ByteArray) (r1 : ByteArray) (r2 : Bool) (w : World) (h : impl_upper.f a0 = some (r1, r2)) :
 Calls Tryz.prog 88 #[.string a0] w fun e w' => e = .returned (.tuple #[.string r1, .bool r2]) ∧ Drawn0 w w' := by
 have H : ((strings_LastIndexByte.f a0 47).bind fun t347 => (if t347 < 0 then (some ((⟨#[]⟩ : ByteArray), false)) else (if 0 ≤ t347 then (if t347 ≤ (a0.size : Int) then (some (a0.extract 0 (t347 : Int).toNat, true)) else (none)) else (none)))) = some (r1, r2) := h
 clear h
 replace H := Option.bind_eq_some_iff.mp H
 obtain ⟨t347, A20, H⟩ := H
 have A2 := Aside0.mk A20
 clear A20
 by_cases c3 : t347 < 0
 {
 rw [if_pos c3] at H
 have c3b0 : decide (t347 < 0) = true := decide_eq_true c3
 clear c3
 simp only [Option.some.injEq, Prod.mk.injEq] at H
 obtain ⟨rfl, rfl⟩ := H
 go_enter Tryz.func88, Tryz.ntmps88
 go_wp2_with (first | ((with_reducible refine gate_callee (f := 105) rfl ?_); refine gL_ (some 6) Tryz.func105 #[.string a0, .int .u8 47] ?_; (with_reducible refine (strings_LastIndexByte.calls a0 47 t347 _ A2.out).mono ?_); rintro e w' ⟨rfl, ⟨nd, rfl⟩⟩; refine ⟨_, rfl, ?_⟩))
 go_ret2
 exact ⟨eS_, dR_⟩}
 {
 rw [if_neg c3] at H
 have c3b0 : decide (t347 < 0) = false := decide_eq_false c3
 clear c3
 by_cases c4 : 0 ≤ t347
 {
 rw [if_pos c4] at H
 have c4b0 := eq_true c4
 have c4b1 : decide (0 ≤ t347) = true := decide_eq_true c4
 clear c4
 by_cases c5 : t347 ≤ (a0.size : Int)
 {
 rw [if_pos c5] at H
 have c5b0 := eq_true c5
 have c5b1 : decide (t347 ≤ (a0.size : Int)) = true := decide_eq_true c5
 clear c5
 simp only [Option.some.injEq, Prod.mk.injEq] at H
 obtain ⟨rfl, rfl⟩ := H
 go_enter Tryz.func88, Tryz.ntmps88
 go_wp2_with (first | ((with_reducible refine gate_callee (f := 105) rfl ?_); refine gL_ (some 6) Tryz.func105 #[.string a0, .int .u8 47] ?_; (with_reducible refine (strings_LastIndexByte.calls a0 47 t347 _ A2.out).mono ?_); rintro e w' ⟨rfl, ⟨nd, rfl⟩⟩; refine ⟨_, rfl, ?_⟩))
 go_ret2
 exact ⟨eS_, dR_⟩}
 {
 rw [if_neg c5] at H
 exact absurd H (by simp)}}
 {
 rw [if_neg c4] at H
 exact absurd H (by simp)
}}
end Go.Proofs.YtkhhkpjeafknpaaGreatDoor.P
end

section
namespace Go.Proofs.YtkhhkpjeafknpaaGreatDoor.P
open Go.RowKit Go.Proofs.YtkhhkpjeafknpaaGreatDoorW.PrintWords Go.Proofs.YtkhhkpjeafknpaaGreatDoorW.PrintLast Go.Proofs.YtkhhkpjeafknpaaGreatDoorW.PrintMore Go.Proofs.YtkhhkpjeafknpaaGreatDoorM
attribute [local go_sem] max2_int min2_int max_two min_two max_three min_three max_four min_four
set_option linter.unusedVariables false
set_option linter.unusedSimpArgs false
def spec_AddressOk.j0 : Nat → ByteArray → Bool → Option (Bool)
 | 0, _, _ => none
 | k + 1, x0, x12 => if x12 = true then (some false) else (if 0 ≤ 13 then (if 13 ≤ (x0.size : Int) then ((spec_ReadWord32.f k (x0.extract 0 13)).bind fun bt120 => (if bt120.2 = true then (if 14 ≤ (x0.size : Int) then ((spec_NameOk.f k (x0.extract 14 x0.size)).bind fun t122 => (some t122)) else (none)) else (some false))) else (none)) else (none))
def spec_AddressOk.f (k : Nat) (a0 : ByteArray) : Option (Bool) := if (a0.size : Int) < 15 then (spec_AddressOk.j0 k a0 true) else (if 13 < (a0.size : Int) then (spec_AddressOk.j0 k a0 ((bt a0 13) != 45)) else (none))
set_option maxHeartbeats 8000000 in
set_option maxRecDepth 100000 in
theorem spec_AddressOk.calls (k : Nat) (a0 : ByteArray) (r : Bool) (w : World) (h : spec_AddressOk.f k a0 = some r) :
 Calls Tryz.prog 43 #[.string a0] w fun e w' => e = .returned (.bool r) ∧ Drawn0 w w' := by
 have H : (if (a0.size : Int) < 15 then (spec_AddressOk.j0 k a0 true) else (if 13 < (a0.size : Int) then (spec_AddressOk.j0 k a0 ((bt a0 13) != 45)) else (none))) = some r := h
 clear h
 have HC2 := Aside0.mk H
 clear H
 go_enter Tryz.func43, Tryz.ntmps43
 go_upto_region 1 with (fail)
 go_cut [12] (fun v12 wc => ∃ (kq : Nat) (x12_1 : Bool), v12 = .bool x12_1 ∧ Aside0 (spec_AddressOk.j0 kq a0 x12_1 = some r) ∧ Aside0 (kq ≤ k) ∧ Drawn0 w wc)
 case first =>
  have H := HC2.out
  clear HC2
  by_cases c3 : (a0.size : Int) < 15
  {
  rw [if_pos c3] at H
  have c3b0 : decide ((a0.size : Int) < 15) = true := decide_eq_true c3
  have c3b1 : decide (a0.size < 15) = true := decide_eq_true (by omega)
  clear c3
  (first | rw [c3b0] | (simp only [i64_w, i32_w]; rw [c3b0]) | skip)
  have H' := Aside0.mk H
  clear H
  go_wp2
  go_meet
  case rel => exact ⟨_, (true), (by first | rfl | (simp; done) | (simp [*]; done)), H', ⟨by first | omega | exact Nat.le_refl _⟩, dR_⟩}
  {
  rw [if_neg c3] at H
  have c3b0 : decide ((a0.size : Int) < 15) = false := decide_eq_false c3
  have c3b1 : decide (a0.size < 15) = false := decide_eq_false (by omega)
  clear c3
  (first | rw [c3b0] | (simp only [i64_w, i32_w]; rw [c3b0]) | skip)
  by_cases c4 : 13 < (a0.size : Int)
  {
  rw [if_pos c4] at H
  have c4b0 : decide (13 < (a0.size : Int)) = true := decide_eq_true c4
  have c4b1 : decide (13 < a0.size) = true := decide_eq_true (by omega)
  clear c4
  have H' := Aside0.mk H
  clear H
  have p5 : 0 ≤ (13 : Int) := (by omega)
  have q5 : 13 < a0.size := (by have : (13 : Int) < (a0.size : Int) := dA_; omega)
  have hx5 : ∀ h : 13 < a0.size, ((a0[13]'h).toNat : Int) = bt a0 13 := bt_at a0 13
  clear p5
  have qi5 : (13 < (a0.size : Int)) = True := eq_true (dA_)
  replace q5 := eq_true q5
  go_wp2
  go_meet
  case rel => exact ⟨_, (((bt a0 13) != 45)), (by first | rfl | (simp; done) | (simp [*]; done)), H', ⟨by first | omega | exact Nat.le_refl _⟩, dR_⟩}
  {
  rw [if_neg c4] at H
  exact absurd H (by simp)}}
 case rest =>
  clear HC2
  try clear p2
  try clear c3
  try clear c3b0
  try clear c3b1
  try clear c4
  try clear c4b0
  try clear c4b1
  try clear p5
  try clear q5
  try clear hx5
  try clear qi5
  try clear p5
  try clear q5
  obtain ⟨kq, x12_1, rfl, HA, HJ1, ⟨mc1, rfl⟩⟩ := hcut
  cases kq with
  | zero => exact absurd HA.out (by simp [spec_AddressOk.j0])
  | succ kj1 =>
   have H := HA.out
   clear HA
   simp only [spec_AddressOk.j0] at H
   by_cases c6 : x12_1 = true
   {
   subst c6
   rw [if_pos rfl] at H
   obtain rfl := Option.some.inj H
   go_wp2
   go_ret
   exact ⟨eS_, dR_⟩}
   {
   replace c6 := Bool.eq_false_iff.mpr c6
   subst c6
   rw [if_neg (show ¬ (false = true) by decide)] at H
   by_cases c7 : 0 ≤ 13
   {
   rw [if_pos c7] at H
   have c7b0 := eq_true c7
   have c7b1 : decide (0 ≤ 13) = true := decide_eq_true c7
   clear c7
   by_cases c8 : 13 ≤ (a0.size : Int)
   {
   rw [if_pos c8] at H
   have c8b0 := eq_true c8
   have c8b1 : decide (13 ≤ (a0.size : Int)) = true := decide_eq_true c8
   clear c8
   replace H := Option.bind_eq_some_iff.mp H
   obtain ⟨⟨t120, t121⟩, A90, H⟩ := H
   have A9 := Aside0.mk A90
   clear A90
   by_cases c10 : t121 = true
   {
   subst c10
   rw [if_pos rfl] at H
   by_cases c11 : 14 ≤ (a0.size : Int)
   {
   rw [if_pos c11] at H
   have c11b0 := eq_true c11
   have c11b1 : decide (14 ≤ (a0.size : Int)) = true := decide_eq_true c11
   clear c11
   replace H := Option.bind_eq_some_iff.mp H
   obtain ⟨t122, A120, H⟩ := H
   have A12 := Aside0.mk A120
   clear A120
   obtain rfl := Option.some.inj H
   go_wp2_with (first | ((with_reducible refine gate_callee (f := 67) rfl ?_); refine gL_ (some 16) Tryz.func67 #[.string (a0.extract 0 13)] ?_; (with_reducible refine (spec_ReadWord32.calls kj1 (a0.extract 0 13) t120 true _ A9.out).mono ?_); rintro e w' ⟨rfl, ⟨nd, rfl⟩⟩; refine ⟨_, rfl, ?_⟩) | (go_at_call 68; (with_reducible refine (spec_NameOk.calls kj1 (a0.extract 14 a0.size) t122 _ A12.out).mono ?_); rintro e w' ⟨rfl, ⟨nd, rfl⟩⟩))
   go_ret
   exact ⟨eS_, dR_⟩}
   {
   rw [if_neg c11] at H
   exact absurd H (by simp)}}
   {
   replace c10 := Bool.eq_false_iff.mpr c10
   subst c10
   rw [if_neg (show ¬ (false = true) by decide)] at H
   obtain rfl := Option.some.inj H
   go_wp2_with (first | ((with_reducible refine gate_callee (f := 67) rfl ?_); refine gL_ (some 16) Tryz.func67 #[.string (a0.extract 0 13)] ?_; (with_reducible refine (spec_ReadWord32.calls kj1 (a0.extract 0 13) t120 false _ A9.out).mono ?_); rintro e w' ⟨rfl, ⟨nd, rfl⟩⟩; refine ⟨_, rfl, ?_⟩))
   go_ret
   exact ⟨eS_, dR_⟩}}
   {
   rw [if_neg c8] at H
   exact absurd H (by simp)}}
   {
   rw [if_neg c7] at H
   exact absurd H (by simp)
}}
mutual
def spec_l10Names.l0 : Nat → ByteArray → List ByteArray → Int → Int → Option (List ByteArray × Bool)
 | 0, _, _, _, _ => none
 | k + 1, x0, x4, x5, x6 => if x6 ≤ (x0.size : Int) then (if x6 = (x0.size : Int) then (spec_l10Names.j1 k x0 x4 x5 x6 true) else (if 0 ≤ x6 then (if x6 < (x0.size : Int) then (spec_l10Names.j1 k x0 x4 x5 x6 ((bt x0 x6) == 47)) else (none)) else (none))) else (some (x4, true))
def spec_l10Names.j1 : Nat → ByteArray → List ByteArray → Int → Int → Bool → Option (List ByteArray × Bool)
 | 0, _, _, _, _, _ => none
 | k + 1, x0, x4, x5, x6, x23 => if x23 = true then (if 0 ≤ x5 then (if x5 ≤ x6 then (if x6 ≤ (x0.size : Int) then ((spec_NameOk.f k (x0.extract (x5 : Int).toNat (x6 : Int).toNat)).bind fun t126 => (if t126 = true then (if (x4.length : Int) = 8 then (some (x4, false)) else (if x4.length < 8796093022208 then (spec_l10Names.l0 k x0 (x4 ++ [x0.extract (x5 : Int).toNat (x6 : Int).toNat]) (wrap64 (x6 + 1)) (wrap64 (x6 + 1))) else (none))) else (some (x4, false)))) else (none)) else (none)) else (none)) else (spec_l10Names.l0 k x0 x4 x5 (wrap64 (x6 + 1)))
end
def spec_l10Names.f (k : Nat) (a0 : ByteArray) : Option (List ByteArray × Bool) := spec_l10Names.l0 k a0 (([] : List ByteArray)) 0 0
set_option maxHeartbeats 8000000 in
set_option maxRecDepth 100000 in
theorem spec_l10Names.calls (k : Nat) (a0 : ByteArray) (r1 : List ByteArray) (r2 : Bool) (w : World) (h : spec_l10Names.f k a0 = some (r1, r2)) :
 Calls Tryz.prog 92 #[.string a0] w fun e w' => ∃ v0_ : Value, e = .returned (.tuple #[v0_, .bool r2]) ∧ Kd.R Kd.string 9 w' w.heap.size (fun _ => True) v0_ r1 ∧ Below w.heap.size w w' := by
 have HB := Aside0.mk (Below.refl w.heap.size w)
 have H : (spec_l10Names.l0 k a0 (([] : List ByteArray)) 0 0) = some (r1, r2) := h
 clear h
 obtain ⟨y123, hy123⟩ : ∃ y_ : List ByteArray, y_ = (([] : List ByteArray)) := ⟨_, rfl⟩
 replace H : (spec_l10Names.l0 k a0 y123 0 0) = some (r1, r2) := by first | (rw [hy123]; with_reducible exact H) | (have H2_ := (Option.bind_some _ _).symm.trans H; rw [hy123]; with_reducible exact H2_) | (have H2_ := (Option.bind_some _ _).symm.trans H; with_reducible exact H2_) | with_reducible exact H | (rw [hy123]; exact H) | exact H
 have Ny123 := Aside0.mk hy123
 clear hy123
 have H' := Aside0.mk H
 clear H
 go_enter Tryz.func92, Tryz.ntmps92
 go_wp2_with (first | ((with_reducible refine gate_dst (N := 7) rfl ?_); (try (refine gate_guard (by rfl) ?_; dsimp only)); refine Kd.R_lit Kd.string _ 9 ?hg (N := 7) ?hd (xs := ([] : List ByteArray)) (inner := []) (ok := fun _ => True) (okp := fun _ => True) ?hr ?hp (fun _ hk => hk) trivial (Below.refl _ _) (Nat.le_refl _) (by simp) ?_; (case hd => rfl); (case hg => rfl); (case hr => first | (go_simp; done) | (go_simp; rfl)); (case hp => exact (Reps.none _ _)); intro v124 w2 ho3 hb hg_ hnew_; clear hg_ hnew_; (first | rw [← Ny123.out] at ho3 | (simp only [Int.reduceToNat] at ho3; rw [← Ny123.out] at ho3)); have n0_ := Aside0.mk (Kd.R_lower ho3 (below_size (bw_ HB))); have n1_ := Aside0.mk (below_step (bw_ HB) hb); clear HB; have HO125 := n0_; have HB := n1_; clear n0_ n1_; clear hb ho3))
 go_loopg [4, 5, 6] k (fun kq v4 v5 v6 w' => ∃ (x4_1 : List ByteArray) (x5_1 : Int) (x6_1 : Int), v5 = .int .i64 x5_1 ∧ v6 = .int .i64 x6_1 ∧ Aside0 (spec_l10Names.l0 kq a0 x4_1 x5_1 x6_1 = some (r1, r2)) ∧ Aside0 (kq ≤ k) ∧ Aside0 (Kd.R Kd.string 9 w' w.heap.size (fun _ => True) v4 x4_1) ∧ Aside0 (Below w.heap.size w w'))
 case atStart => exact ⟨(y123), (0), (0), (by first | rfl | (simp; done) | (simp [*]; done)), (by first | rfl | (simp; done) | (simp [*]; done)), H', ⟨Nat.le_refl _⟩, ⟨by (with_reducible repeat (first | apply Kd.R_alloc | apply Kd.R_drewN | apply Kd.R_drew)); exact HO125.out⟩, ⟨bw_ HB⟩⟩
 case round =>
  clear H'
  try clear p2
  obtain ⟨x4_1, x5_1, x6_1, rfl, rfl, HA, HK1, HO_4, HB⟩ := hrel
  cases gk with
  | zero => exact absurd HA.out (by simp [spec_l10Names.l0])
  | succ k1 =>
   have H := HA.out
   clear HA
   simp only [spec_l10Names.l0] at H
   by_cases c4 : x6_1 ≤ (a0.size : Int)
   {
   rw [if_pos c4] at H
   have c4b0 : decide (x6_1 ≤ (a0.size : Int)) = true := decide_eq_true c4
   clear c4
   have HC5 := Aside0.mk H
   clear H
   go_upto_region 6 with (fail)
   go_cut [23] (fun v23 wc => ∃ (kq : Nat) (x23_4 : Bool), v23 = .bool x23_4 ∧ Aside0 (spec_l10Names.j1 kq a0 x4_1 x5_1 x6_1 x23_4 = some (r1, r2)) ∧ Aside0 (kq ≤ k1) ∧ Aside0 (Kd.R Kd.string 9 wc w.heap.size (fun _ => True) u4 x4_1) ∧ Aside0 (Below w.heap.size w wc))
   case first =>
    have H := HC5.out
    clear HC5
    by_cases c6 : x6_1 = (a0.size : Int)
    {
    rw [if_pos c6] at H
    have c6b0 : (x6_1 == (a0.size : Int)) = true := beq_iff_eq.mpr c6
    have c6b1 : (x6_1 != (a0.size : Int)) = false := bne_eq_false_iff_eq.mpr c6
    clear c6
    (first | rw [c6b0] | (simp only [i64_w, i32_w]; rw [c6b0]) | skip)
    have H' := Aside0.mk H
    clear H
    go_wp2
    go_meet
    case rel => exact ⟨_, (true), (by first | rfl | (simp; done) | (simp [*]; done)), H', ⟨by have := HK1.out; first | omega | exact Nat.le_refl _⟩, ⟨by (with_reducible repeat (first | apply Kd.R_alloc | apply Kd.R_drewN | apply Kd.R_drew)); exact HO_4.out⟩, ⟨bw_ HB⟩⟩}
    {
    rw [if_neg c6] at H
    have c6b0 : (x6_1 == (a0.size : Int)) = false := beq_eq_false_iff_ne.mpr c6
    have c6b1 : (x6_1 != (a0.size : Int)) = true := bne_iff_ne.mpr c6
    (first | rw [c6b0] | (simp only [i64_w, i32_w]; rw [c6b0]) | skip)
    by_cases c7 : 0 ≤ x6_1
    {
    rw [if_pos c7] at H
    have c7b0 : decide (0 ≤ x6_1) = true := decide_eq_true c7
    clear c7
    by_cases c8 : x6_1 < (a0.size : Int)
    {
    rw [if_pos c8] at H
    have c8b0 : decide (x6_1 < (a0.size : Int)) = true := decide_eq_true c8
    clear c8
    have H' := Aside0.mk H
    clear H
    have p9 : 0 ≤ (x6_1 : Int) := dA_
    have q9 : x6_1 < (a0.size : Int) := dA_
    have hx9 := bt_at a0 x6_1
    replace p9 := eq_true p9
    replace q9 := eq_true q9
    go_wp2
    go_meet
    case rel => exact ⟨_, (((bt a0 x6_1) == 47)), (by first | rfl | (simp; done) | (simp [*]; done)), H', ⟨by have := HK1.out; first | omega | exact Nat.le_refl _⟩, ⟨by (with_reducible repeat (first | apply Kd.R_alloc | apply Kd.R_drewN | apply Kd.R_drew)); exact HO_4.out⟩, ⟨bw_ HB⟩⟩}
    {
    rw [if_neg c8] at H
    exact absurd H (by simp)}}
    {
    rw [if_neg c7] at H
    exact absurd H (by simp)}}
   case rest =>
    clear HC5
    try clear p2
    try clear c4
    try clear c4b0
    try clear c6
    try clear c6b0
    try clear c6b1
    try clear c7
    try clear c7b0
    try clear c8
    try clear c8b0
    try clear c9
    try clear p9
    try clear q9
    try clear hx9
    try clear p2
    try clear p9
    try clear q9
    obtain ⟨kq, x23_4, rfl, HA, HJ4, HO_4, HB⟩ := hcut
    cases kq with
    | zero => exact absurd HA.out (by simp [spec_l10Names.j1])
    | succ kj4 =>
     have H := HA.out
     clear HA
     simp only [spec_l10Names.j1] at H
     by_cases c10 : x23_4 = true
     {
     subst c10
     rw [if_pos rfl] at H
     by_cases c11 : 0 ≤ x5_1
     {
     rw [if_pos c11] at H
     have c11b0 := eq_true c11
     have c11b1 : decide (0 ≤ x5_1) = true := decide_eq_true c11
     clear c11
     by_cases c12 : x5_1 ≤ x6_1
     {
     rw [if_pos c12] at H
     have c12b0 := eq_true c12
     have c12b1 : decide (x5_1 ≤ x6_1) = true := decide_eq_true c12
     clear c12
     by_cases c13 : x6_1 ≤ (a0.size : Int)
     {
     rw [if_pos c13] at H
     have c13b0 := eq_true c13
     have c13b1 : decide (x6_1 ≤ (a0.size : Int)) = true := decide_eq_true c13
     clear c13
     replace H := Option.bind_eq_some_iff.mp H
     obtain ⟨t126, A140, H⟩ := H
     have A14 := Aside0.mk A140
     clear A140
     by_cases c15 : t126 = true
     {
     subst c15
     rw [if_pos rfl] at H
     by_cases c16 : (x4_1.length : Int) = 8
     {
     rw [if_pos c16] at H
     have c16b0 : ((x4_1.length : Int) == 8) = true := beq_iff_eq.mpr c16
     have c16b1 : ((x4_1.length : Int) != 8) = false := bne_eq_false_iff_eq.mpr c16
     clear c16
     simp only [Option.some.injEq, Prod.mk.injEq] at H
     obtain ⟨rfl, rfl⟩ := H
     go_wp2_with (first | ((with_reducible refine gate_callee (f := 68) rfl ?_); refine gL_ (some 28) Tryz.func68 #[.string (a0.extract (x5_1 : Int).toNat (x6_1 : Int).toNat)] ?_; (with_reducible refine (spec_NameOk.calls kj4 (a0.extract (x5_1 : Int).toNat (x6_1 : Int).toNat) true _ A14.out).mono ?_); rintro e w' ⟨rfl, ⟨nd, rfl⟩⟩; refine ⟨_, rfl, ?_⟩; obtain ⟨Ao17, co17, eo17⟩ := Kd.R_slice HO_4.out; subst eo17))
     go_ret2
     exact ⟨_, eR_, by (with_reducible repeat (first | apply Kd.R_alloc | apply Kd.R_drewN | apply Kd.R_drew)); exact HO_4.out, bw_ HB⟩}
     {
     rw [if_neg c16] at H
     have c16b0 : ((x4_1.length : Int) == 8) = false := beq_eq_false_iff_ne.mpr c16
     have c16b1 : ((x4_1.length : Int) != 8) = true := bne_iff_ne.mpr c16
     have c18b0 := eq_true (dA_ : 0 ≤ x5_1)
     have c19b0 := eq_true (dA_ : x5_1 ≤ x6_1)
     have c20b0 := eq_true (dA_ : x6_1 ≤ (a0.size : Int))
     by_cases c21 : x4_1.length < 8796093022208
     {
     rw [if_pos c21] at H
     have LMc21 := Aside0.mk c21
     clear c21
     obtain ⟨y127, hy127⟩ : ∃ y_ : List ByteArray, y_ = (x4_1 ++ [a0.extract (x5_1 : Int).toNat (x6_1 : Int).toNat]) := ⟨_, rfl⟩
     replace H : (spec_l10Names.l0 kj4 a0 y127 (wrap64 (x6_1 + 1)) (wrap64 (x6_1 + 1))) = some (r1, r2) := by first | (rw [hy127]; with_reducible exact H) | (have H2_ := (Option.bind_some _ _).symm.trans H; rw [hy127]; with_reducible exact H2_) | (have H2_ := (Option.bind_some _ _).symm.trans H; with_reducible exact H2_) | with_reducible exact H | (rw [hy127]; exact H) | exact H
     have Ny127 := Aside0.mk hy127
     clear hy127
     have H' := Aside0.mk H
     clear H
     go_wp2_with (first | ((with_reducible refine gate_callee (f := 68) rfl ?_); refine gL_ (some 28) Tryz.func68 #[.string (a0.extract (x5_1 : Int).toNat (x6_1 : Int).toNat)] ?_; (with_reducible refine (spec_NameOk.calls kj4 (a0.extract (x5_1 : Int).toNat (x6_1 : Int).toNat) true _ A14.out).mono ?_); rintro e w' ⟨rfl, ⟨nd, rfl⟩⟩; refine ⟨_, rfl, ?_⟩; obtain ⟨Ao22, co22, eo22⟩ := Kd.R_slice HO_4.out; subst eo22) | ((with_reducible refine gate_builtin (b := .append) (xs := #[.tmp 36, .tmp 41]) rfl ?_); (try (refine gate_guard (by rfl) ?_; dsimp only)); at_builtin; refine Kd.R_append Kd.string (w0 := w) w.heap.size rfl (.tmp 36) (.tmp 41) 29 9 (.string ⟨#[]⟩) 16 rfl Tryz.underlying29 info9 rfl (by decide) (by omega) (.slice Ao22 x4_1.length co22) x4_1 (a0.extract (x5_1 : Int).toNat (x6_1 : Int).toNat) [.string (a0.extract (x5_1 : Int).toNat (x6_1 : Int).toNat)] (fun _ => True) (fun _ => False) rfl rfl ?aP (fun _ hk => hk.elim) ?aF ?aO ?aB ?aS ?aL ?_; (case aP => exact rfl); (case aB => exact (bw_ HB)); (case aF => exact (fun _ _ => trivial)); (case aO => exact (by (with_reducible repeat (first | apply Kd.R_alloc | apply Kd.R_drewN | apply Kd.R_drew)); exact HO_4.out)); (case aS => exact (below_size (bw_ HB))); (case aL => have := LMc21.out; omega); intro v128 w23 ho hb hg hat; rw [← Ny127.out] at ho; have n0_ := Aside0.mk (hb); have n1_ := Aside0.mk (ho); clear HB; clear HO_4; have HB := n0_; have HO129 := n1_; clear n0_ n1_; clear ho hb hg hat))
     go_roundg kj4
     case measure => have := HK1.out; have := HJ4.out; omega
     case rel => exact ⟨(y127), (wrap64 (x6_1 + 1)), (wrap64 (x6_1 + 1)), (by first | rfl | (simp; done) | (simp [*]; done)), (by first | rfl | (simp; done) | (simp [*]; done)), H', ⟨by have := HK1.out; have := HJ4.out; omega⟩, ⟨by (with_reducible repeat (first | apply Kd.R_alloc | apply Kd.R_drewN | apply Kd.R_drew)); exact HO129.out⟩, ⟨bw_ HB⟩⟩}
     {
     rw [if_neg c21] at H
     exact absurd H (by simp)}}}
     {
     replace c15 := Bool.eq_false_iff.mpr c15
     subst c15
     rw [if_neg (show ¬ (false = true) by decide)] at H
     simp only [Option.some.injEq, Prod.mk.injEq] at H
     obtain ⟨rfl, rfl⟩ := H
     go_wp2_with (first | ((with_reducible refine gate_callee (f := 68) rfl ?_); refine gL_ (some 28) Tryz.func68 #[.string (a0.extract (x5_1 : Int).toNat (x6_1 : Int).toNat)] ?_; (with_reducible refine (spec_NameOk.calls kj4 (a0.extract (x5_1 : Int).toNat (x6_1 : Int).toNat) false _ A14.out).mono ?_); rintro e w' ⟨rfl, ⟨nd, rfl⟩⟩; refine ⟨_, rfl, ?_⟩))
     go_ret2
     exact ⟨_, eR_, by (with_reducible repeat (first | apply Kd.R_alloc | apply Kd.R_drewN | apply Kd.R_drew)); exact HO_4.out, bw_ HB⟩}}
     {
     rw [if_neg c13] at H
     exact absurd H (by simp)}}
     {
     rw [if_neg c12] at H
     exact absurd H (by simp)}}
     {
     rw [if_neg c11] at H
     exact absurd H (by simp)}}
     {
     replace c10 := Bool.eq_false_iff.mpr c10
     subst c10
     rw [if_neg (show ¬ (false = true) by decide)] at H
     have H' := Aside0.mk H
     clear H
     go_wp2
     go_roundg kj4
     case measure => have := HK1.out; have := HJ4.out; omega
     case rel => exact ⟨(x4_1), (x5_1), (wrap64 (x6_1 + 1)), (by first | rfl | (simp; done) | (simp [*]; done)), (by first | rfl | (simp; done) | (simp [*]; done)), H', ⟨by have := HK1.out; have := HJ4.out; omega⟩, ⟨by (with_reducible repeat (first | apply Kd.R_alloc | apply Kd.R_drewN | apply Kd.R_drew)); exact HO_4.out⟩, ⟨bw_ HB⟩⟩}}
   {
   rw [if_neg c4] at H
   have c4b0 : decide (x6_1 ≤ (a0.size : Int)) = false := decide_eq_false c4
   clear c4
   simp only [Option.some.injEq, Prod.mk.injEq] at H
   obtain ⟨rfl, rfl⟩ := H
   go_wp2
   go_ret2
   exact ⟨_, eR_, by (with_reducible repeat (first | apply Kd.R_alloc | apply Kd.R_drewN | apply Kd.R_drew)); exact HO_4.out, bw_ HB⟩
}
end Go.Proofs.YtkhhkpjeafknpaaGreatDoor.P
end

section
namespace Go.Proofs.YtkhhkpjeafknpaaGreatDoor.P
open Go.RowKit Go.Proofs.YtkhhkpjeafknpaaGreatDoorW.PrintWords Go.Proofs.YtkhhkpjeafknpaaGreatDoorW.PrintLast Go.Proofs.YtkhhkpjeafknpaaGreatDoorW.PrintMore Go.Proofs.YtkhhkpjeafknpaaGreatDoorM
attribute [local go_sem] max2_int min2_int max_two min_two max_three min_three max_four min_four
set_option linter.unusedVariables false
set_option linter.unusedSimpArgs false
def spec_l10EntryOk.j0 : Nat → Bool → ByteArray → Int → ByteArray → Bool → Option (Bool)
 | 0, _, _, _, _, _ => none
 | k + 1, x18, x131000, x131001, x131002, x131003 => if x18 = true then (some false) else (if x131001 = 1 then (if x131002.toList = ([] : List UInt8) then (some (!x131003)) else (some false)) else (if x131001 = 2 then (some true) else (if x131001 = 3 then (if x131002.toList = ([] : List UInt8) then (some false) else (some (!x131003))) else (some false))))
def spec_l10EntryOk.f (k : Nat) (a0_0 : ByteArray) (a0_1 : Int) (a0_2 : ByteArray) (a0_3 : Bool) : Option (Bool) := (spec_l10Names.f k a0_0).bind fun bt131 => (if bt131.2 = true then (spec_l10EntryOk.j0 k (decide ((a0_2.size : Int) > 20000)) a0_0 a0_1 a0_2 a0_3) else (spec_l10EntryOk.j0 k true a0_0 a0_1 a0_2 a0_3))
set_option maxHeartbeats 8000000 in
set_option maxRecDepth 100000 in
theorem spec_l10EntryOk.calls (k : Nat) (a0_0 : ByteArray) (a0_1 : Int) (a0_2 : ByteArray) (a0_3 : Bool) (r : Bool) (w : World) (h : spec_l10EntryOk.f k a0_0 a0_1 a0_2 a0_3 = some r) :
 Calls Tryz.prog 69 #[.agg #[.string a0_0, .int .i64 a0_1, .string a0_2, .bool a0_3]] w fun e w' => e = .returned (.bool r) ∧ Below w.heap.size w w' := by
 have hu70 := Tryz.underlying70
 have HB := Aside0.mk (Below.refl w.heap.size w)
 have H : ((spec_l10Names.f k a0_0).bind fun bt131 => (if bt131.2 = true then (spec_l10EntryOk.j0 k (decide ((a0_2.size : Int) > 20000)) a0_0 a0_1 a0_2 a0_3) else (spec_l10EntryOk.j0 k true a0_0 a0_1 a0_2 a0_3))) = some r := h
 clear h
 replace H := Option.bind_eq_some_iff.mp H
 obtain ⟨⟨t131, t132⟩, A20, H⟩ := H
 have A2 := Aside0.mk A20
 clear A20
 have HC3 := Aside0.mk H
 clear H
 go_enter Tryz.func69, Tryz.ntmps69
 go_upto_region 2 with (first | ((with_reducible refine gate_dst (N := 1) rfl ?_); (try (refine gate_guard (by rfl) ?_; dsimp only)); refine box_event ?hg (N := 1) ?hd (cs := #[.string a0_0, .int .i64 a0_1, .string a0_2, .bool a0_3]) (t := 70) ?hr ?_; (case hd => rfl); (case hg => rfl); (case hr => first | (go_simp; done) | (go_simp; rfl)); intro gb130 hg w4 hbox hb; have n0_ := Aside0.mk (below_step (bw_ HB) hb); have n1_ := Aside0.mk (hbox); have n2_ := Aside0.mk ((by rw [hg]; exact (below_size (bw_ HB)) : w.heap.size ≤ gb130)); have n3_ := Aside0.mk ((by rw [hg]; exact (below_size (bw_ HB)) : w.heap.size ≤ gb130)); clear HB; have HB := n0_; have BK130 := n1_; have GW130 := n2_; have GE130 := n3_; clear n0_ n1_ n2_ n3_; clear hb hbox hg; have hcz5_0 : w4.cell? ⟨gb130, 0, none⟩ = some (.string a0_0) := (blk_cell BK130.out 0).trans rfl; have hcz5_1 : w4.cell? ⟨gb130, 1, none⟩ = some (.int .i64 a0_1) := (blk_cell BK130.out 1).trans rfl; have hcz5_2 : w4.cell? ⟨gb130, 2, none⟩ = some (.string a0_2) := (blk_cell BK130.out 2).trans rfl; have hcz5_3 : w4.cell? ⟨gb130, 3, none⟩ = some (.bool a0_3) := (blk_cell BK130.out 3).trans rfl; have hfz5_0 := blk_frozen BK130.out 0; have hfz5_1 := blk_frozen BK130.out 1; have hfz5_2 := blk_frozen BK130.out 2; have hfz5_3 := blk_frozen BK130.out 3) | ((with_reducible refine gate_callee (f := 92) rfl ?_); refine gL_ (some 8) Tryz.func92 #[.string a0_0] ?_; (with_reducible refine (spec_l10Names.calls k a0_0 t131 t132 _ A2.out).mono ?_); rintro e w6 ⟨v133, rfl, ho0, hb⟩; refine ⟨_, rfl, ?_⟩; have n0_ := Aside0.mk (Kd.R_lower ho0 (below_size (bw1_ HB GE130))); have n1_ := Aside0.mk (blk_below (g := gb130) (o := .cells #[.string a0_0, .int .i64 a0_1, .string a0_2, .bool a0_3] 70 (0, 0)) (by (with_reducible repeat (first | refine blk_drewN ?_ _ | refine blk_drew ?_ | refine blk_alloc ?_ _)); exact BK130.out) hb); have n2_ := Aside0.mk (below_step (bw1_ HB GE130) hb); clear BK130; clear HB; have HO134 := n0_; have BK130 := n1_; have HB := n2_; clear n0_ n1_ n2_; (try clear hb); (try clear hb2); (try clear hk); (try clear hi); (try clear ho0)))
 (try simp only [Act.put, List.setIfInBounds_toArray, List.set_cons_zero, List.set_cons_succ])
 go_cut [18] (fun v18 wc => ∃ (kq : Nat) (x18_2 : Bool), v18 = .bool x18_2 ∧ Aside0 (spec_l10EntryOk.j0 kq x18_2 a0_0 a0_1 a0_2 a0_3 = some r) ∧ Aside0 (kq ≤ k) ∧ Aside0 (wc.heap[gb130]? = some (.cells #[.string a0_0, .int .i64 a0_1, .string a0_2, .bool a0_3] 70 (0, 0))) ∧ Aside0 (Below w.heap.size w wc))
 case first =>
  have H := HC3.out
  clear HC3
  by_cases c7 : t132 = true
  {
  subst c7
  rw [if_pos rfl] at H
  have H' := Aside0.mk H
  clear H
  have hcz8_0 : w6.cell? ⟨gb130, 0, none⟩ = some (.string a0_0) := (blk_cell BK130.out 0).trans rfl
  have hcz8_1 : w6.cell? ⟨gb130, 1, none⟩ = some (.int .i64 a0_1) := (blk_cell BK130.out 1).trans rfl
  have hcz8_2 : w6.cell? ⟨gb130, 2, none⟩ = some (.string a0_2) := (blk_cell BK130.out 2).trans rfl
  have hcz8_3 : w6.cell? ⟨gb130, 3, none⟩ = some (.bool a0_3) := (blk_cell BK130.out 3).trans rfl
  have hfz8_0 := blk_frozen BK130.out 0
  have hfz8_1 := blk_frozen BK130.out 1
  have hfz8_2 := blk_frozen BK130.out 2
  have hfz8_3 := blk_frozen BK130.out 3
  go_wp2
  go_meet
  case rel => exact ⟨_, (decide ((a0_2.size : Int) > 20000)), (by first | rfl | (simp; done) | (simp [*]; done)), H', ⟨by first | omega | exact Nat.le_refl _⟩, ⟨by (with_reducible repeat (first | refine blk_drewN ?_ _ | refine blk_drew ?_ | refine blk_alloc ?_ _)); exact BK130.out⟩, ⟨bw1_ HB GE130⟩⟩}
  {
  replace c7 := Bool.eq_false_iff.mpr c7
  subst c7
  rw [if_neg (show ¬ (false = true) by decide)] at H
  have H' := Aside0.mk H
  clear H
  go_wp2
  go_meet
  case rel => exact ⟨_, (true), (by first | rfl | (simp; done) | (simp [*]; done)), H', ⟨by first | omega | exact Nat.le_refl _⟩, ⟨by (with_reducible repeat (first | refine blk_drewN ?_ _ | refine blk_drew ?_ | refine blk_alloc ?_ _)); exact BK130.out⟩, ⟨bw1_ HB GE130⟩⟩}
 case rest =>
  clear HC3
  try clear p2
  try clear c6
  try clear c7
  try clear hcz5_0
  try clear hcz5_1
  try clear hcz5_2
  try clear hcz5_3
  try clear hcz8_0
  try clear hcz8_1
  try clear hcz8_2
  try clear hcz8_3
  try clear hfz5_0
  try clear hfz5_1
  try clear hfz5_2
  try clear hfz5_3
  try clear hfz8_0
  try clear hfz8_1
  try clear hfz8_2
  try clear hfz8_3
  obtain ⟨kq, x18_2, rfl, HA, HJ2, BK130, HB⟩ := hcut
  cases kq with
  | zero => exact absurd HA.out (by simp [spec_l10EntryOk.j0])
  | succ kj2 =>
   have H := HA.out
   clear HA
   simp only [spec_l10EntryOk.j0] at H
   by_cases c9 : x18_2 = true
   {
   subst c9
   rw [if_pos rfl] at H
   obtain rfl := Option.some.inj H
   go_wp2
   go_ret
   exact ⟨eR_, bw1_ HB GE130⟩}
   {
   replace c9 := Bool.eq_false_iff.mpr c9
   subst c9
   rw [if_neg (show ¬ (false = true) by decide)] at H
   by_cases c10 : a0_1 = 1
   {
   rw [if_pos c10] at H
   have c10b0 : (a0_1 == 1) = true := beq_iff_eq.mpr c10
   have c10b1 : (a0_1 != 1) = false := bne_eq_false_iff_eq.mpr c10
   clear c10
   by_cases c11 : a0_2.toList = ([] : List UInt8)
   {
   rw [if_pos c11] at H
   have c11b0 : (a0_2.toList == ([] : List UInt8)) = true := beq_iff_eq.mpr c11
   have c11b1 : (a0_2.toList != ([] : List UInt8)) = false := bne_eq_false_iff_eq.mpr c11
   clear c11
   obtain rfl := Option.some.inj H
   have hcz12_0 : wc.cell? ⟨gb130, 0, none⟩ = some (.string a0_0) := (blk_cell BK130.out 0).trans rfl
   have hcz12_1 : wc.cell? ⟨gb130, 1, none⟩ = some (.int .i64 a0_1) := (blk_cell BK130.out 1).trans rfl
   have hcz12_2 : wc.cell? ⟨gb130, 2, none⟩ = some (.string a0_2) := (blk_cell BK130.out 2).trans rfl
   have hcz12_3 : wc.cell? ⟨gb130, 3, none⟩ = some (.bool a0_3) := (blk_cell BK130.out 3).trans rfl
   have hfz12_0 := blk_frozen BK130.out 0
   have hfz12_1 := blk_frozen BK130.out 1
   have hfz12_2 := blk_frozen BK130.out 2
   have hfz12_3 := blk_frozen BK130.out 3
   go_wp2
   go_ret
   exact ⟨eR_, bw1_ HB GE130⟩}
   {
   rw [if_neg c11] at H
   have c11b0 : (a0_2.toList == ([] : List UInt8)) = false := beq_eq_false_iff_ne.mpr c11
   have c11b1 : (a0_2.toList != ([] : List UInt8)) = true := bne_iff_ne.mpr c11
   obtain rfl := Option.some.inj H
   have hcz13_0 : wc.cell? ⟨gb130, 0, none⟩ = some (.string a0_0) := (blk_cell BK130.out 0).trans rfl
   have hcz13_1 : wc.cell? ⟨gb130, 1, none⟩ = some (.int .i64 a0_1) := (blk_cell BK130.out 1).trans rfl
   have hcz13_2 : wc.cell? ⟨gb130, 2, none⟩ = some (.string a0_2) := (blk_cell BK130.out 2).trans rfl
   have hcz13_3 : wc.cell? ⟨gb130, 3, none⟩ = some (.bool a0_3) := (blk_cell BK130.out 3).trans rfl
   have hfz13_0 := blk_frozen BK130.out 0
   have hfz13_1 := blk_frozen BK130.out 1
   have hfz13_2 := blk_frozen BK130.out 2
   have hfz13_3 := blk_frozen BK130.out 3
   go_wp2
   go_ret
   exact ⟨eR_, bw1_ HB GE130⟩}}
   {
   rw [if_neg c10] at H
   have c10b0 : (a0_1 == 1) = false := beq_eq_false_iff_ne.mpr c10
   have c10b1 : (a0_1 != 1) = true := bne_iff_ne.mpr c10
   by_cases c14 : a0_1 = 2
   {
   rw [if_pos c14] at H
   have c14b0 : (a0_1 == 2) = true := beq_iff_eq.mpr c14
   have c14b1 : (a0_1 != 2) = false := bne_eq_false_iff_eq.mpr c14
   clear c14
   obtain rfl := Option.some.inj H
   have hcz15_0 : wc.cell? ⟨gb130, 0, none⟩ = some (.string a0_0) := (blk_cell BK130.out 0).trans rfl
   have hcz15_1 : wc.cell? ⟨gb130, 1, none⟩ = some (.int .i64 a0_1) := (blk_cell BK130.out 1).trans rfl
   have hcz15_2 : wc.cell? ⟨gb130, 2, none⟩ = some (.string a0_2) := (blk_cell BK130.out 2).trans rfl
   have hcz15_3 : wc.cell? ⟨gb130, 3, none⟩ = some (.bool a0_3) := (blk_cell BK130.out 3).trans rfl
   have hfz15_0 := blk_frozen BK130.out 0
   have hfz15_1 := blk_frozen BK130.out 1
   have hfz15_2 := blk_frozen BK130.out 2
   have hfz15_3 := blk_frozen BK130.out 3
   go_wp2
   go_ret
   exact ⟨eR_, bw1_ HB GE130⟩}
   {
   rw [if_neg c14] at H
   have c14b0 : (a0_1 == 2) = false := beq_eq_false_iff_ne.mpr c14
   have c14b1 : (a0_1 != 2) = true := bne_iff_ne.mpr c14
   by_cases c16 : a0_1 = 3
   {
   rw [if_pos c16] at H
   have c16b0 : (a0_1 == 3) = true := beq_iff_eq.mpr c16
   have c16b1 : (a0_1 != 3) = false := bne_eq_false_iff_eq.mpr c16
   clear c16
   by_cases c17 : a0_2.toList = ([] : List UInt8)
   {
   rw [if_pos c17] at H
   have c17b0 : (a0_2.toList == ([] : List UInt8)) = true := beq_iff_eq.mpr c17
   have c17b1 : (a0_2.toList != ([] : List UInt8)) = false := bne_eq_false_iff_eq.mpr c17
   clear c17
   obtain rfl := Option.some.inj H
   have hcz18_0 : wc.cell? ⟨gb130, 0, none⟩ = some (.string a0_0) := (blk_cell BK130.out 0).trans rfl
   have hcz18_1 : wc.cell? ⟨gb130, 1, none⟩ = some (.int .i64 a0_1) := (blk_cell BK130.out 1).trans rfl
   have hcz18_2 : wc.cell? ⟨gb130, 2, none⟩ = some (.string a0_2) := (blk_cell BK130.out 2).trans rfl
   have hcz18_3 : wc.cell? ⟨gb130, 3, none⟩ = some (.bool a0_3) := (blk_cell BK130.out 3).trans rfl
   have hfz18_0 := blk_frozen BK130.out 0
   have hfz18_1 := blk_frozen BK130.out 1
   have hfz18_2 := blk_frozen BK130.out 2
   have hfz18_3 := blk_frozen BK130.out 3
   go_wp2
   go_ret
   exact ⟨eR_, bw1_ HB GE130⟩}
   {
   rw [if_neg c17] at H
   have c17b0 : (a0_2.toList == ([] : List UInt8)) = false := beq_eq_false_iff_ne.mpr c17
   have c17b1 : (a0_2.toList != ([] : List UInt8)) = true := bne_iff_ne.mpr c17
   obtain rfl := Option.some.inj H
   have hcz19_0 : wc.cell? ⟨gb130, 0, none⟩ = some (.string a0_0) := (blk_cell BK130.out 0).trans rfl
   have hcz19_1 : wc.cell? ⟨gb130, 1, none⟩ = some (.int .i64 a0_1) := (blk_cell BK130.out 1).trans rfl
   have hcz19_2 : wc.cell? ⟨gb130, 2, none⟩ = some (.string a0_2) := (blk_cell BK130.out 2).trans rfl
   have hcz19_3 : wc.cell? ⟨gb130, 3, none⟩ = some (.bool a0_3) := (blk_cell BK130.out 3).trans rfl
   have hfz19_0 := blk_frozen BK130.out 0
   have hfz19_1 := blk_frozen BK130.out 1
   have hfz19_2 := blk_frozen BK130.out 2
   have hfz19_3 := blk_frozen BK130.out 3
   go_wp2
   go_ret
   exact ⟨eR_, bw1_ HB GE130⟩}}
   {
   rw [if_neg c16] at H
   have c16b0 : (a0_1 == 3) = false := beq_eq_false_iff_ne.mpr c16
   have c16b1 : (a0_1 != 3) = true := bne_iff_ne.mpr c16
   obtain rfl := Option.some.inj H
   have hcz20_0 : wc.cell? ⟨gb130, 0, none⟩ = some (.string a0_0) := (blk_cell BK130.out 0).trans rfl
   have hcz20_1 : wc.cell? ⟨gb130, 1, none⟩ = some (.int .i64 a0_1) := (blk_cell BK130.out 1).trans rfl
   have hcz20_2 : wc.cell? ⟨gb130, 2, none⟩ = some (.string a0_2) := (blk_cell BK130.out 2).trans rfl
   have hcz20_3 : wc.cell? ⟨gb130, 3, none⟩ = some (.bool a0_3) := (blk_cell BK130.out 3).trans rfl
   have hfz20_0 := blk_frozen BK130.out 0
   have hfz20_1 := blk_frozen BK130.out 1
   have hfz20_2 := blk_frozen BK130.out 2
   have hfz20_3 := blk_frozen BK130.out 3
   go_wp2
   go_ret
   exact ⟨eR_, bw1_ HB GE130⟩
}}}}
def spec_l10Up.l0 : Nat → ByteArray → Int → Option (ByteArray)
 | 0, _, _ => none
 | k + 1, x0, x3 => if x3 ≥ 0 then (if 0 ≤ x3 then (if x3 < (x0.size : Int) then (if (bt x0 x3) = 47 then (if x3 ≤ (x0.size : Int) then (some (x0.extract 0 (x3 : Int).toNat)) else (none)) else (spec_l10Up.l0 k x0 (wrap64 (x3 - 1)))) else (none)) else (none)) else (some (⟨#[]⟩ : ByteArray))
def spec_l10Up.f (k : Nat) (a0 : ByteArray) : Option (ByteArray) := spec_l10Up.l0 k a0 (wrap64 ((a0.size : Int) - 1))
set_option maxHeartbeats 8000000 in
set_option maxRecDepth 100000 in
theorem spec_l10Up.calls (k : Nat) (a0 : ByteArray) (r : ByteArray) (w : World) (h : spec_l10Up.f k a0 = some r) :
 Calls Tryz.prog 70 #[.string a0] w fun e w' => e = .returned (.string r) ∧ Drawn0 w w' := by
 have H : (spec_l10Up.l0 k a0 (wrap64 ((a0.size : Int) - 1))) = some r := h
 clear h
 have H' := Aside0.mk H
 clear H
 go_enter Tryz.func70, Tryz.ntmps70
 go_wp2
 go_loopg [3] k (fun kq v3 w' => ∃ (x3_1 : Int), v3 = .int .i64 x3_1 ∧ Aside0 (spec_l10Up.l0 kq a0 x3_1 = some r) ∧ Aside0 (kq ≤ k) ∧ Drawn0 w w')
 case atStart => exact ⟨(wrap64 ((a0.size : Int) - 1)), (by first | rfl | (simp; done) | (simp [*]; done)), H', ⟨Nat.le_refl _⟩, dR_⟩
 case round =>
  clear H'
  obtain ⟨x3_1, rfl, HA, HK1, ⟨m1, rfl⟩⟩ := hrel
  cases gk with
  | zero => exact absurd HA.out (by simp [spec_l10Up.l0])
  | succ k1 =>
   have H := HA.out
   clear HA
   simp only [spec_l10Up.l0] at H
   by_cases c2 : x3_1 ≥ 0
   {
   rw [if_pos c2] at H
   have c2b0 : decide (0 ≤ x3_1) = true := decide_eq_true c2
   clear c2
   by_cases c3 : 0 ≤ x3_1
   {
   rw [if_pos c3] at H
   have c3b0 : decide (0 ≤ x3_1) = true := decide_eq_true c3
   clear c3
   by_cases c4 : x3_1 < (a0.size : Int)
   {
   rw [if_pos c4] at H
   have c4b0 : decide (x3_1 < (a0.size : Int)) = true := decide_eq_true c4
   clear c4
   by_cases c6 : (bt a0 x3_1) = 47
   {
   rw [if_pos c6] at H
   have c6b0 : ((bt a0 x3_1) == 47) = true := beq_iff_eq.mpr c6
   have c6b1 : ((bt a0 x3_1) != 47) = false := bne_eq_false_iff_eq.mpr c6
   clear c6
   have c7b0 := eq_true (dA_ : 0 ≤ x3_1)
   by_cases c8 : x3_1 ≤ (a0.size : Int)
   {
   rw [if_pos c8] at H
   have c8b0 := eq_true c8
   have c8b1 : decide (x3_1 ≤ (a0.size : Int)) = true := decide_eq_true c8
   clear c8
   obtain rfl := Option.some.inj H
   have p5 : 0 ≤ (x3_1 : Int) := dA_
   have q5 : x3_1 < (a0.size : Int) := dA_
   have hx5 := bt_at a0 x3_1
   replace p5 := eq_true p5
   replace q5 := eq_true q5
   go_wp2
   go_ret
   exact ⟨eS_, dR_⟩}
   {
   rw [if_neg c8] at H
   exact absurd H (by simp)}}
   {
   rw [if_neg c6] at H
   have c6b0 : ((bt a0 x3_1) == 47) = false := beq_eq_false_iff_ne.mpr c6
   have c6b1 : ((bt a0 x3_1) != 47) = true := bne_iff_ne.mpr c6
   have H' := Aside0.mk H
   clear H
   have p5 : 0 ≤ (x3_1 : Int) := dA_
   have q5 : x3_1 < (a0.size : Int) := dA_
   have hx5 := bt_at a0 x3_1
   replace p5 := eq_true p5
   replace q5 := eq_true q5
   go_wp2
   go_roundg k1
   case measure => have := HK1.out; omega
   case rel => exact ⟨(wrap64 (x3_1 - 1)), (by first | rfl | (simp; done) | (simp [*]; done)), H', ⟨by have := HK1.out; omega⟩, dR_⟩}}
   {
   rw [if_neg c4] at H
   exact absurd H (by simp)}}
   {
   rw [if_neg c3] at H
   exact absurd H (by simp)}}
   {
   rw [if_neg c2] at H
   have c2b0 : decide (0 ≤ x3_1) = false := decide_eq_false c2
   clear c2
   obtain rfl := Option.some.inj H
   go_wp2
   go_ret
   exact ⟨eS_, dR_⟩
}
end Go.Proofs.YtkhhkpjeafknpaaGreatDoor.P
end

section
namespace Go.Proofs.YtkhhkpjeafknpaaGreatDoor.P
open Go.RowKit Go.Proofs.YtkhhkpjeafknpaaGreatDoorW.PrintWords Go.Proofs.YtkhhkpjeafknpaaGreatDoorW.PrintLast Go.Proofs.YtkhhkpjeafknpaaGreatDoorW.PrintMore Go.Proofs.YtkhhkpjeafknpaaGreatDoorM
attribute [local go_sem] max2_int min2_int max_two min_two max_three min_three max_four min_four
set_option linter.unusedVariables false
set_option linter.unusedSimpArgs false
mutual
def impl_TreeOk.l0 : Nat → List (S70) → List (ByteArray × Int) → List (S70) → Int → Int → Option (Bool)
 | 0, _, _, _, _, _ => none
 | k + 1, x0, x3, x14, x15, x16 => if x16 < x15 then (if 0 ≤ x16 then (if x16 < (x14.length : Int) then ((impl_pathOk.f k ((rd_T70 x14 x16).f0)).bind fun t353 => (if t353 = true then (if x16 > 0 then (if 0 ≤ (wrap64 (x16 - 1)) then (if (wrap64 (x16 - 1)) < (x0.length : Int) then (if ((Op.bytesLess (((rd_T70 x0 (wrap64 (x16 - 1))).f0).toList) (((rd_T70 x14 x16).f0).toList)) = true) then (if (rd_T70 x14 x16).f3 = true then (impl_TreeOk.j1 k x0 x3 x14 x15 x16 (((rd_T70 x14 x16).f1) != 2) ((rd_T70 x14 x16).f0) ((rd_T70 x14 x16).f1) ((rd_T70 x14 x16).f2) ((rd_T70 x14 x16).f3)) else (impl_TreeOk.j1 k x0 x3 x14 x15 x16 false ((rd_T70 x14 x16).f0) ((rd_T70 x14 x16).f1) ((rd_T70 x14 x16).f2) ((rd_T70 x14 x16).f3))) else (impl_TreeOk.j1 k x0 x3 x14 x15 x16 true ((rd_T70 x14 x16).f0) ((rd_T70 x14 x16).f1) ((rd_T70 x14 x16).f2) ((rd_T70 x14 x16).f3))) else (none)) else (none)) else (if (rd_T70 x14 x16).f3 = true then (impl_TreeOk.j1 k x0 x3 x14 x15 x16 (((rd_T70 x14 x16).f1) != 2) ((rd_T70 x14 x16).f0) ((rd_T70 x14 x16).f1) ((rd_T70 x14 x16).f2) ((rd_T70 x14 x16).f3)) else (impl_TreeOk.j1 k x0 x3 x14 x15 x16 false ((rd_T70 x14 x16).f0) ((rd_T70 x14 x16).f1) ((rd_T70 x14 x16).f2) ((rd_T70 x14 x16).f3)))) else (impl_TreeOk.j1 k x0 x3 x14 x15 x16 true ((rd_T70 x14 x16).f0) ((rd_T70 x14 x16).f1) ((rd_T70 x14 x16).f2) ((rd_T70 x14 x16).f3)))) else (none)) else (none)) else (impl_TreeOk.l1 k x3 x0 (x0.length : Int) 0)
def impl_TreeOk.j1 : Nat → List (S70) → List (ByteArray × Int) → List (S70) → Int → Int → Bool → ByteArray → Int → ByteArray → Bool → Option (Bool)
 | 0, _, _, _, _, _, _, _, _, _, _ => none
 | k + 1, x0, x3, x14, x15, x16, x48, x353000, x353001, x353002, x353003 => if x48 = true then (some false) else (if x353001 = 1 then (if x353002.toList = ([] : List UInt8) then (if x3.length < 1099511627776 then (if x353000.size ≤ 9223372036854775807 then (impl_TreeOk.l0 k x0 (x3 ++ [(x353000, 1)]) x14 x15 (wrap64 (x16 + 1))) else (none)) else (none)) else (some false)) else (if x353001 = 2 then (if (x353002.size : Int) > 20000 then (some false) else (impl_TreeOk.l0 k x0 x3 x14 x15 (wrap64 (x16 + 1)))) else (if x353001 = 3 then (if (x353002.size : Int) < 1 then (some false) else (if (x353002.size : Int) > 20000 then (some false) else (impl_TreeOk.l0 k x0 x3 x14 x15 (wrap64 (x16 + 1))))) else (some false))))
def impl_TreeOk.l1 : Nat → List (ByteArray × Int) → List (S70) → Int → Int → Option (Bool)
 | 0, _, _, _, _ => none
 | k + 1, x3, x78, x79, x80 => if x80 < x79 then (if 0 ≤ x80 then (if x80 < (x78.length : Int) then ((impl_upper.f ((rd_T70 x78 x80).f0)).bind fun bt358 => (if bt358.2 = true then (if bt358.1.size ≤ 9223372036854775807 then (if (mgetD 0 x3 bt358.1) = 0 then (some false) else (impl_TreeOk.l1 k x3 x78 x79 (wrap64 (x80 + 1)))) else (none)) else (impl_TreeOk.l1 k x3 x78 x79 (wrap64 (x80 + 1))))) else (none)) else (none)) else (some true)
end
def impl_TreeOk.f (k : Nat) (l0 : List (S70)) : Option (Bool) := if (l0.length : Int) > 500 then (some false) else (impl_TreeOk.l0 k l0 (([] : List (ByteArray × Int))) l0 (l0.length : Int) 0)
theorem impl_TreeOk.mono_l : ∀ k, (∀ y0 y1 y2 y3 y4, LeO (impl_TreeOk.l0 k y0 y1 y2 y3 y4) (impl_TreeOk.l0 (k + 1) y0 y1 y2 y3 y4)) ∧ (∀ y0 y1 y2 y3 y4 y5 y6 y7 y8 y9, LeO (impl_TreeOk.j1 k y0 y1 y2 y3 y4 y5 y6 y7 y8 y9) (impl_TreeOk.j1 (k + 1) y0 y1 y2 y3 y4 y5 y6 y7 y8 y9)) ∧ (∀ y0 y1 y2 y3, LeO (impl_TreeOk.l1 k y0 y1 y2 y3) (impl_TreeOk.l1 (k + 1) y0 y1 y2 y3))
 | 0 => ⟨fun _ _ _ _ _ r h => by simp [impl_TreeOk.l0] at h, fun _ _ _ _ _ _ _ _ _ _ r h => by simp [impl_TreeOk.j1] at h, fun _ _ _ _ r h => by simp [impl_TreeOk.l1] at h⟩
 | k + 1 => by
  obtain ⟨ih0, ih1, ih2⟩ := impl_TreeOk.mono_l k
  refine ⟨?_, ?_, ?_⟩
  {
  intro y0 y1 y2 y3 y4
  unfold impl_TreeOk.l0
  repeat' first
  | (with_reducible exact ih0 _ _ _ _ _)
  | (with_reducible exact ih1 _ _ _ _ _ _ _ _ _ _)
  | (with_reducible exact ih2 _ _ _ _)
  | (with_reducible exact impl_pathOk.mono _ _)
  | (with_reducible exact LeO.refl _)
  | (with_reducible exact LeO.none _)
  | (with_reducible refine LeO.ite ?_ ?_)
  | (with_reducible refine LeO.bind ?_ (fun _ => ?_))
  | exact ih0 _ _ _ _ _
  | exact ih1 _ _ _ _ _ _ _ _ _ _
  | exact ih2 _ _ _ _
  | exact impl_pathOk.mono _ _
  | exact LeO.none _
  | refine LeO.ite ?_ ?_
  | refine LeO.bind ?_ (fun _ => ?_)}
  {
  intro y0 y1 y2 y3 y4 y5 y6 y7 y8 y9
  unfold impl_TreeOk.j1
  repeat' first
  | (with_reducible exact ih0 _ _ _ _ _)
  | (with_reducible exact ih1 _ _ _ _ _ _ _ _ _ _)
  | (with_reducible exact ih2 _ _ _ _)
  | (with_reducible exact impl_pathOk.mono _ _)
  | (with_reducible exact LeO.refl _)
  | (with_reducible exact LeO.none _)
  | (with_reducible refine LeO.ite ?_ ?_)
  | (with_reducible refine LeO.bind ?_ (fun _ => ?_))
  | exact ih0 _ _ _ _ _
  | exact ih1 _ _ _ _ _ _ _ _ _ _
  | exact ih2 _ _ _ _
  | exact impl_pathOk.mono _ _
  | exact LeO.none _
  | refine LeO.ite ?_ ?_
  | refine LeO.bind ?_ (fun _ => ?_)}
  {
  intro y0 y1 y2 y3
  unfold impl_TreeOk.l1
  repeat' first
  | (with_reducible exact ih0 _ _ _ _ _)
  | (with_reducible exact ih1 _ _ _ _ _ _ _ _ _ _)
  | (with_reducible exact ih2 _ _ _ _)
  | (with_reducible exact impl_pathOk.mono _ _)
  | (with_reducible exact LeO.refl _)
  | (with_reducible exact LeO.none _)
  | (with_reducible refine LeO.ite ?_ ?_)
  | (with_reducible refine LeO.bind ?_ (fun _ => ?_))
  | exact ih0 _ _ _ _ _
  | exact ih1 _ _ _ _ _ _ _ _ _ _
  | exact ih2 _ _ _ _
  | exact impl_pathOk.mono _ _
  | exact LeO.none _
  | refine LeO.ite ?_ ?_
  | refine LeO.bind ?_ (fun _ => ?_)}
theorem impl_TreeOk.mono : ∀ a0 k, LeO (impl_TreeOk.f k a0) (impl_TreeOk.f (k + 1) a0) := by
 intro a0 k
 obtain ⟨ih0, ih1, ih2⟩ := impl_TreeOk.mono_l k
 unfold impl_TreeOk.f
 repeat' first
  | (with_reducible exact ih0 _ _ _ _ _)
  | (with_reducible exact ih1 _ _ _ _ _ _ _ _ _ _)
  | (with_reducible exact ih2 _ _ _ _)
  | (with_reducible exact impl_pathOk.mono _ _)
  | (with_reducible exact LeO.refl _)
  | (with_reducible exact LeO.none _)
  | (with_reducible refine LeO.ite ?_ ?_)
  | (with_reducible refine LeO.bind ?_ (fun _ => ?_))
  | exact ih0 _ _ _ _ _
  | exact ih1 _ _ _ _ _ _ _ _ _ _
  | exact ih2 _ _ _ _
  | exact impl_pathOk.mono _ _
  | exact LeO.none _
  | refine LeO.ite ?_ ?_
  | refine LeO.bind ?_ (fun _ => ?_)
def impl_TreeOk.T7 : Bool × List (List Nat × List Nat) := (true, [([], []), ([0], [0]), ([1], [1]), ([2], [2]), ([3, 2], [3]), ([4], [4]), ([5, 4], [4, 5]), ([6, 4, 4], [4, 6]), ([7], [7]), ([8, 7], [7, 8]), ([7], [7]), ([7], [7]), ([11, 7], [7, 11]), ([10, 12, 7], [7, 10, 12]), ([13, 7], [7, 13]), ([14, 7], [7, 14]), ([9, 15, 7], [7, 9, 15]), ([7, 16, 4], [4, 7, 16]), ([4, 17], [4, 17]), ([18, 7], [18]), ([19], [19]), ([20, 19], [19, 20]), ([21, 19, 19], [19, 21]), ([22], [22]), ([23, 22], [22, 23]), ([24, 22], [22, 24]), ([22, 25, 19], [19, 22, 25]), ([19, 26], [19, 26])])
def impl_TreeOk.B7 : List Nat := [0, 1, 3, 7, 15, 31, 63, 127, 255, 511, 255, 255, 2303, 7423, 15615, 31999, 65535, 131071, 262143, 524287, 1048575, 2097151, 4194303, 8388607, 16777215, 33554431, 67108863, 134217727]
theorem impl_TreeOk.tab7 : rtab .any (opsOf Tryz.f63 7) = impl_TreeOk.T7 := by kernel_rfl
theorem impl_TreeOk.bits7 : waitsOk impl_TreeOk.T7.2 impl_TreeOk.B7 = true := by kernel_rfl
set_option maxHeartbeats 8000000 in
set_option maxRecDepth 100000 in
theorem impl_TreeOk.calls (k : Nat) (A0 : Option Addr) (c0 : Nat) (l0 : List (S70)) (r : Bool) (w : World) (hE : EnvW w) (hr0 : Kd.C k70 w A0 l0.length l0) (hc0 : l0.length ≤ c0) (h : impl_TreeOk.f k l0 = some r) :
 Calls Tryz.prog 63 #[.slice A0 l0.length c0] w fun e w' => e = .returned (.bool r) ∧ Below w.heap.size w w' := by
 have hu70 := Tryz.underlying70
 have HE := Aside0.mk hE
 clear hE
 have HR0 := Aside0.mk hr0
 have HC0 := Aside0.mk hc0
 clear hr0 hc0
 have HB := Aside0.mk (Below.refl w.heap.size w)
 have H : (if (l0.length : Int) > 500 then (some false) else (impl_TreeOk.l0 k l0 (([] : List (ByteArray × Int))) l0 (l0.length : Int) 0)) = some r := h
 clear h
 by_cases c2 : (l0.length : Int) > 500
 {
 rw [if_pos c2] at H
 have c2b0 : decide (500 < (l0.length : Int)) = true := decide_eq_true c2
 have c2b1 : decide (500 < l0.length) = true := decide_eq_true (by omega)
 clear c2
 obtain rfl := Option.some.inj H
 go_enter Tryz.func63, Tryz.ntmps63
 go_wp2
 go_ret
 exact ⟨eR_, bw_ HB⟩}
 {
 rw [if_neg c2] at H
 have c2b0 : decide (500 < (l0.length : Int)) = false := decide_eq_false c2
 have c2b1 : decide (500 < l0.length) = false := decide_eq_false (by omega)
 clear c2
 obtain ⟨y348, hy348⟩ : ∃ y_ : List (ByteArray × Int), y_ = (([] : List (ByteArray × Int))) := ⟨_, rfl⟩
 replace H : (impl_TreeOk.l0 k l0 y348 l0 (l0.length : Int) 0) = some r := by first | (rw [hy348]; with_reducible exact H) | (have H2_ := (Option.bind_some _ _).symm.trans H; rw [hy348]; with_reducible exact H2_) | (have H2_ := (Option.bind_some _ _).symm.trans H; with_reducible exact H2_) | with_reducible exact H | (rw [hy348]; exact H) | exact H
 have Ny348 := Aside0.mk hy348
 clear hy348
 have H' := Aside0.mk H
 clear H
 go_enter Tryz.func63, Tryz.ntmps63
 go_wp2_with (first | ((with_reducible refine gate_dst (N := 13) rfl ?_); (try (refine gate_guard (by rfl) ?_; dsimp only)); refine map_new (kkStr Tryz.prog 9 Tryz.underlying9) ekI64 rfl (N := 13) rfl 92 rfl ?_; intro gm350 gg4 w3 hmp hb; rw [← Ny348.out] at hmp; have n0_ := Aside0.mk (below_step (bw_ HB) hb); have n1_ := Aside0.mk (hmp); have n2_ := Aside0.mk ((by rw [gg4]; exact (below_size (bw_ HB)) : w.heap.size ≤ gm350)); clear HB; have HB := n0_; have HM349 := n1_; have GMgm350 := n2_; clear n0_ n1_ n2_; clear hb hmp gg4))
 go_loopg [16] k (fun kq v16 w' => ∃ (x3_1 : List (ByteArray × Int)) (x16_1 : Int), v16 = .int .i64 x16_1 ∧ Aside0 (impl_TreeOk.l0 kq l0 x3_1 l0 (l0.length : Int) x16_1 = some r) ∧ Aside0 (kq ≤ k) ∧ Aside0 (MapAt (kkStr Tryz.prog 9 Tryz.underlying9) ekI64 w' gm350 x3_1) ∧ Aside0 (Below w.heap.size w w'))
 case atStart => exact ⟨(y348), (0), (by first | rfl | (simp; done) | (simp [*]; done)), H', ⟨Nat.le_refl _⟩, ⟨show MapAt (kkStr Tryz.prog 9 Tryz.underlying9) ekI64 _ gm350 y348 from by (with_reducible repeat (first | refine MapAt.alloc ?_ _ | refine MapAt.drewN ?_ _ | refine MapAt.drew ?_)); exact HM349.out⟩, ⟨bw_ HB⟩⟩
 case round =>
  clear H'
  try clear c2
  try clear c2b0
  try clear c2b1
  try clear p2
  obtain ⟨x3_1, x16_1, rfl, HA, HK1, HM_3, HB⟩ := hrel
  cases gk with
  | zero => exact absurd HA.out (by simp [impl_TreeOk.l0])
  | succ k1 =>
   have H := HA.out
   clear HA
   simp only [impl_TreeOk.l0] at H
   by_cases c5 : x16_1 < (l0.length : Int)
   {
   rw [if_pos c5] at H
   have c5b0 : decide (x16_1 < (l0.length : Int)) = true := decide_eq_true c5
   clear c5
   by_cases c6 : 0 ≤ x16_1
   {
   rw [if_pos c6] at H
   have c6b0 : decide (0 ≤ x16_1) = true := decide_eq_true c6
   clear c6
   by_cases c7 : x16_1 < (l0.length : Int)
   {
   rw [if_pos c7] at H
   have c7b0 : decide (x16_1 < (l0.length : Int)) = true := decide_eq_true c7
   clear c7
   have HC8 := Aside0.mk H
   clear H
   have p351 : 0 ≤ (x16_1 : Int) := dA_
   have q351 : x16_1 < (l0.length : Int) := dA_
   obtain ⟨ad351, e351, hx351_0, hx351_1, hx351_2, hx351_3⟩ := at_T70 HR0.out x16_1 p351 q351
   cases e351
   replace hx351_0 := hX_ HB hx351_0
   replace hx351_1 := hX_ HB hx351_1
   replace hx351_2 := hX_ HB hx351_2
   replace hx351_3 := hX_ HB hx351_3
   replace p351 := eq_true p351
   replace q351 := eq_true q351
   go_upto_region 7 with (first | ((with_reducible refine gate_dst (N := 5) rfl ?_); (try (refine gate_guard (by rfl) ?_; dsimp only)); refine box_event ?hg (N := 5) ?hd (cs := #[.string (⟨#[]⟩ : ByteArray), .int .i64 0, .string (⟨#[]⟩ : ByteArray), .bool false]) (t := 70) ?hr ?_; (case hd => rfl); (case hg => rfl); (case hr => first | (go_simp; done) | (go_simp; rfl)); intro gb352 hg w9 hbox hb; have n0_ := Aside0.mk (MapAt.below (show MapAt (kkStr Tryz.prog 9 Tryz.underlying9) ekI64 _ gm350 x3_1 from by (with_reducible repeat (first | refine MapAt.alloc ?_ _ | refine MapAt.drewN ?_ _ | refine MapAt.drew ?_)); exact HM_3.out) hb); have n1_ := Aside0.mk (below_step (bw_ HB) hb); have n2_ := Aside0.mk (hbox); have n3_ := Aside0.mk ((by rw [hg]; exact (below_size (bw_ HB)) : w.heap.size ≤ gb352)); have n4_ := Aside0.mk ((by rw [hg]; exact (below_size (bw_ HB)) : w.heap.size ≤ gb352)); clear HM_3; clear HB; have HM_3 := n0_; have HB := n1_; have BK352 := n2_; have GW352 := n3_; have GE352 := n4_; clear n0_ n1_ n2_ n3_ n4_; clear hb hbox hg; have hcz10_0 : w9.cell? ⟨gb352, 0, none⟩ = some (.string (⟨#[]⟩ : ByteArray)) := (blk_cell BK352.out 0).trans rfl; have hcz10_1 : w9.cell? ⟨gb352, 1, none⟩ = some (.int .i64 0) := (blk_cell BK352.out 1).trans rfl; have hcz10_2 : w9.cell? ⟨gb352, 2, none⟩ = some (.string (⟨#[]⟩ : ByteArray)) := (blk_cell BK352.out 2).trans rfl; have hcz10_3 : w9.cell? ⟨gb352, 3, none⟩ = some (.bool false) := (blk_cell BK352.out 3).trans rfl; have hfz10_0 := blk_frozen BK352.out 0; have hfz10_1 := blk_frozen BK352.out 1; have hfz10_2 := blk_frozen BK352.out 2; have hfz10_3 := blk_frozen BK352.out 3))
   (try simp only [Act.put, List.setIfInBounds_toArray, List.set_cons_zero, List.set_cons_succ])
   go_cut [48] (fun v48 wc => ∃ (kq : Nat) (x48_7 : Bool), v48 = .bool x48_7 ∧ Aside0 (impl_TreeOk.j1 kq l0 x3_1 l0 (l0.length : Int) x16_1 x48_7 ((rd_T70 l0 x16_1).f0) ((rd_T70 l0 x16_1).f1) ((rd_T70 l0 x16_1).f2) ((rd_T70 l0 x16_1).f3) = some r) ∧ Aside0 (kq ≤ k1) ∧ Aside0 (MapAt (kkStr Tryz.prog 9 Tryz.underlying9) ekI64 wc gm350 x3_1) ∧ Aside0 (wc.heap[gb352]? = some (.cells #[.string ((rd_T70 l0 x16_1).f0), .int .i64 ((rd_T70 l0 x16_1).f1), .string ((rd_T70 l0 x16_1).f2), .bool ((rd_T70 l0 x16_1).f3)] 70 (0, 0))) ∧ Aside0 (Below w.heap.size w wc))
   case first =>
    have H := HC8.out
    clear HC8
    replace H := Option.bind_eq_some_iff.mp H
    obtain ⟨t353, A110, H⟩ := H
    have A11 := Aside0.mk A110
    clear A110
    by_cases c12 : t353 = true
    {
    subst c12
    rw [if_pos rfl] at H
    by_cases c13 : x16_1 > 0
    {
    rw [if_pos c13] at H
    have c13b0 : decide (0 < x16_1) = true := decide_eq_true c13
    clear c13
    (first | rw [c13b0] | (simp only [i64_w, i32_w]; rw [c13b0]) | skip)
    obtain ⟨ji14, hji14⟩ : ∃ j_ : Int, (wrap64 (x16_1 - 1)) = j_ := ⟨_, rfl⟩
    replace H : (if 0 ≤ (ji14) then (if (ji14) < (l0.length : Int) then (if ((Op.bytesLess (((rd_T70 l0 (ji14)).f0).toList) (((rd_T70 l0 x16_1).f0).toList)) = true) then (if (rd_T70 l0 x16_1).f3 = true then (impl_TreeOk.j1 k1 l0 x3_1 l0 (l0.length : Int) x16_1 (((rd_T70 l0 x16_1).f1) != 2) ((rd_T70 l0 x16_1).f0) ((rd_T70 l0 x16_1).f1) ((rd_T70 l0 x16_1).f2) ((rd_T70 l0 x16_1).f3)) else (impl_TreeOk.j1 k1 l0 x3_1 l0 (l0.length : Int) x16_1 false ((rd_T70 l0 x16_1).f0) ((rd_T70 l0 x16_1).f1) ((rd_T70 l0 x16_1).f2) ((rd_T70 l0 x16_1).f3))) else (impl_TreeOk.j1 k1 l0 x3_1 l0 (l0.length : Int) x16_1 true ((rd_T70 l0 x16_1).f0) ((rd_T70 l0 x16_1).f1) ((rd_T70 l0 x16_1).f2) ((rd_T70 l0 x16_1).f3))) else (none)) else (none)) = some r := by first | (rw [hji14] at H; exact H) | (simp only [hji14] at H ⊢; exact H)
    (try rw [hji14] at A11)
    have hji14w : (IntKind.i64.wrap (x16_1 - 1)) = ji14 := (i64_w _).trans hji14
    by_cases c15 : 0 ≤ (ji14)
    {
    rw [if_pos c15] at H
    have c15b0 : decide (0 ≤ (ji14)) = true := decide_eq_true c15
    clear c15
    by_cases c16 : (ji14) < (l0.length : Int)
    {
    rw [if_pos c16] at H
    have c16b0 : decide ((ji14) < (l0.length : Int)) = true := decide_eq_true c16
    clear c16
    by_cases c17 : ((Op.bytesLess (((rd_T70 l0 (ji14)).f0).toList) (((rd_T70 l0 x16_1).f0).toList)) = true)
    {
    rw [if_pos c17] at H
    have c17b0 : (Op.bytesLess (((rd_T70 l0 (ji14)).f0).toList) (((rd_T70 l0 x16_1).f0).toList)) = true := c17
    clear c17
    obtain ⟨bq18, hbq18⟩ : ∃ b_ : Bool, b_ = ((rd_T70 l0 x16_1).f3) := ⟨_, rfl⟩
    replace H : (if bq18 = true then (impl_TreeOk.j1 k1 l0 x3_1 l0 (l0.length : Int) x16_1 (((rd_T70 l0 x16_1).f1) != 2) ((rd_T70 l0 x16_1).f0) ((rd_T70 l0 x16_1).f1) ((rd_T70 l0 x16_1).f2) bq18) else (impl_TreeOk.j1 k1 l0 x3_1 l0 (l0.length : Int) x16_1 false ((rd_T70 l0 x16_1).f0) ((rd_T70 l0 x16_1).f1) ((rd_T70 l0 x16_1).f2) bq18)) = some r := by rw [← hbq18] at H; exact H
    have Nbq18 := Aside0.mk hbq18
    clear hbq18
    by_cases c19 : bq18 = true
    {
    subst c19
    rw [if_pos rfl] at H
    have H' := Aside0.mk H
    clear H
    try go_wp2
    have n0_ : Aside0 (((((w9.setCell ⟨gb352, 0, none⟩ (.string ((rd_T70 l0 x16_1).f0))).setCell ⟨gb352, 1, none⟩ (.int .i64 ((rd_T70 l0 x16_1).f1))).setCell ⟨gb352, 2, none⟩ (.string ((rd_T70 l0 x16_1).f2))).setCell ⟨gb352, 3, none⟩ (.bool (true))).heap[gb352]? = some (.cells #[.string ((rd_T70 l0 x16_1).f0), .int .i64 ((rd_T70 l0 x16_1).f1), .string ((rd_T70 l0 x16_1).f2), .bool true] 70 (0, 0))) := ⟨by (with_reducible repeat (first | refine blk_drewN ?_ _ | refine blk_drew ?_ | refine blk_alloc ?_ _)); refine blk_put (cs := #[.string ((rd_T70 l0 x16_1).f0), .int .i64 ((rd_T70 l0 x16_1).f1), .string ((rd_T70 l0 x16_1).f2), .bool false]) ?_ 3 _ rfl; (with_reducible repeat (first | refine blk_drewN ?_ _ | refine blk_drew ?_ | refine blk_alloc ?_ _)); refine blk_put (cs := #[.string ((rd_T70 l0 x16_1).f0), .int .i64 ((rd_T70 l0 x16_1).f1), .string (⟨#[]⟩ : ByteArray), .bool false]) ?_ 2 _ rfl; (with_reducible repeat (first | refine blk_drewN ?_ _ | refine blk_drew ?_ | refine blk_alloc ?_ _)); refine blk_put (cs := #[.string ((rd_T70 l0 x16_1).f0), .int .i64 0, .string (⟨#[]⟩ : ByteArray), .bool false]) ?_ 1 _ rfl; (with_reducible repeat (first | refine blk_drewN ?_ _ | refine blk_drew ?_ | refine blk_alloc ?_ _)); refine blk_put (cs := #[.string (⟨#[]⟩ : ByteArray), .int .i64 0, .string (⟨#[]⟩ : ByteArray), .bool false]) ?_ 0 _ rfl; (with_reducible repeat (first | refine blk_drewN ?_ _ | refine blk_drew ?_ | refine blk_alloc ?_ _)); exact BK352.out⟩
    have n1_ : Aside0 (MapAt (kkStr Tryz.prog 9 Tryz.underlying9) ekI64 ((((w9.setCell ⟨gb352, 0, none⟩ (.string ((rd_T70 l0 x16_1).f0))).setCell ⟨gb352, 1, none⟩ (.int .i64 ((rd_T70 l0 x16_1).f1))).setCell ⟨gb352, 2, none⟩ (.string ((rd_T70 l0 x16_1).f2))).setCell ⟨gb352, 3, none⟩ (.bool (true))) gm350 x3_1) := ⟨by (with_reducible repeat (first | refine MapAt.alloc ?_ _ | refine MapAt.drewN ?_ _ | refine MapAt.drew ?_ | refine MapAt.set_ ?_ _ _)); exact HM_3.out⟩
    have n2_ : Aside0 (Below w.heap.size w ((((w9.setCell ⟨gb352, 0, none⟩ (.string ((rd_T70 l0 x16_1).f0))).setCell ⟨gb352, 1, none⟩ (.int .i64 ((rd_T70 l0 x16_1).f1))).setCell ⟨gb352, 2, none⟩ (.string ((rd_T70 l0 x16_1).f2))).setCell ⟨gb352, 3, none⟩ (.bool (true)))) := ⟨bw1_ HB GE352⟩
    (try rw [← Nbq18.out])
    (try clear BK352)
    (try clear HM_3)
    (try clear HB)
    generalize ((((w9.setCell ⟨gb352, 0, none⟩ (.string ((rd_T70 l0 x16_1).f0))).setCell ⟨gb352, 1, none⟩ (.int .i64 ((rd_T70 l0 x16_1).f1))).setCell ⟨gb352, 2, none⟩ (.string ((rd_T70 l0 x16_1).f2))).setCell ⟨gb352, 3, none⟩ (.bool (true))) = w20 at n0_ n1_ n2_ ⊢
    have BK352 := n0_
    have HM_3 := n1_
    have HB := n2_
    clear n0_ n1_ n2_
    have n0_ := Aside0.mk (blk_drew BK352.out)
    have n1_ := Aside0.mk (MapAt.drew HM_3.out)
    have n2_ := Aside0.mk (below_drew1 HB.out)
    clear BK352
    clear HM_3
    clear HB
    have BK352 := n0_
    have HM_3 := n1_
    have HB := n2_
    clear n0_ n1_ n2_
    have p354 : 0 ≤ ((ji14) : Int) := dA_
    have q354 : (ji14) < (l0.length : Int) := dA_
    obtain ⟨ad354, e354, hx354_0, hx354_1, hx354_2, hx354_3⟩ := at_T70 HR0.out (ji14) p354 q354
    have hw354_3 := hx354_3
    (try rw [← Nbq18.out] at hw354_3)
    have hw354_2 := hx354_2
    (try rw [← Nbq18.out] at hw354_2)
    have hw354_1 := hx354_1
    (try rw [← Nbq18.out] at hw354_1)
    have hw354_0 := hx354_0
    (try rw [← Nbq18.out] at hw354_0)
    (try rw [← Nbq18.out] at hx354_3)
    obtain rfl : ad351 = ad354 := (by injection e354)
    replace hx354_0 := hX_ HB hx354_0
    replace hx354_1 := hX_ HB hx354_1
    replace hx354_2 := hX_ HB hx354_2
    replace hx354_3 := hX_ HB hx354_3
    replace p354 := eq_true p354
    replace q354 := eq_true q354
    refine start_ (n := 28) (S := fun w' => w'.cell? ⟨gb352, 0, none⟩ = some (.string ((rd_T70 l0 x16_1).f0)) ∧ w'.cell? ⟨gb352, 1, none⟩ = some (.int .i64 ((rd_T70 l0 x16_1).f1)) ∧ w'.cell? ⟨gb352, 2, none⟩ = some (.string ((rd_T70 l0 x16_1).f2)) ∧ w'.cell? ⟨gb352, 3, none⟩ = some (.bool true) ∧ w'.cell? (ad351.add (((ji14)).toNat * 4)) = some (.string ((rd_T70 l0 (ji14)).f0)) ∧ w'.cell? ⟨(ad351.add (((ji14)).toNat * 4)).block, (ad351.add (((ji14)).toNat * 4)).off + 1, none⟩ = some (.int .i64 ((rd_T70 l0 (ji14)).f1)) ∧ w'.cell? ⟨(ad351.add (((ji14)).toNat * 4)).block, (ad351.add (((ji14)).toNat * 4)).off + 2, none⟩ = some (.string ((rd_T70 l0 (ji14)).f2)) ∧ w'.cell? ⟨(ad351.add (((ji14)).toNat * 4)).block, (ad351.add (((ji14)).toNat * 4)).off + 3, none⟩ = some (.bool ((rd_T70 l0 (ji14)).f3))) (ds := []) (bs_ 28 0) (by kernel_rfl) rfl (by kernel_rfl) ⟨(blk_cell BK352.out 0).trans rfl, (blk_cell BK352.out 1).trans rfl, (blk_cell BK352.out 2).trans rfl, (blk_cell BK352.out 3).trans rfl, ((HB.out.cell (World.block_lt_of_cell? w _ hw354_0)).trans hw354_0), ((HB.out.cell (World.block_lt_of_cell? w _ hw354_1)).trans hw354_1), ((HB.out.cell (World.block_lt_of_cell? w _ hw354_2)).trans hw354_2), ((HB.out.cell (World.block_lt_of_cell? w _ hw354_3)).trans hw354_3)⟩ (fun hHeld => ?_); refine with_tabW impl_TreeOk.tab7 impl_TreeOk.bits7 (fun HT_ HW_ => ?_)
    generalize w20.drew = w21 at BK352 HM_3 HB hx354_0 hx354_1 hx354_2 hx354_3 hHeld ⊢
    refine pS_ 0 ?_
    refine t8_ 1 hHeld ?_
    refine oS_ 2 (fun K hK => ?_)
    refine gS_ Tryz.func87 #[.string ((rd_T70 l0 x16_1).f0)] ?_
    with_reducible refine (impl_pathOk.calls k1 ((rd_T70 l0 x16_1).f0) true _ ?side1 A11.out).mono ?_
    (case side1 => refine EnvW.below HE.out ?_; repeat (first | (with_reducible first | exact HB.out | apply below_alloc | apply pw_below_drewN | apply below_drew1 | refine below_set ?_ GE352.out) | exact HB.out))
    rintro e w22 ⟨rfl, hb⟩
    refine ⟨_, rfl, ?_⟩
    have n0_ := Aside0.mk (MapAt.below (show MapAt (kkStr Tryz.prog 9 Tryz.underlying9) ekI64 _ gm350 x3_1 from by (with_reducible repeat (first | refine MapAt.alloc ?_ _ | refine MapAt.drewN ?_ _ | refine MapAt.drew ?_)); exact HM_3.out) hb)
    have n1_ := Aside0.mk (blk_below (g := gb352) (o := .cells #[.string ((rd_T70 l0 x16_1).f0), .int .i64 ((rd_T70 l0 x16_1).f1), .string ((rd_T70 l0 x16_1).f2), .bool true] 70 (0, 0)) (by (with_reducible repeat (first | refine blk_drewN ?_ _ | refine blk_drew ?_ | refine blk_alloc ?_ _)); exact BK352.out) hb)
    have n2_ := Aside0.mk (below_step (bw1_ HB GE352) hb)
    clear HM_3
    clear BK352
    clear HB
    have HM_3 := n0_
    have BK352 := n1_
    have HB := n2_
    clear n0_ n1_ n2_
    (try clear hb)
    (try clear hb2)
    (try clear hk)
    (try clear hi)
    refine hK.out _ _ ⟨(blk_cell BK352.out 0).trans rfl, (blk_cell BK352.out 1).trans rfl, (blk_cell BK352.out 2).trans rfl, (blk_cell BK352.out 3).trans rfl, ((HB.out.cell (World.block_lt_of_cell? w _ hw354_0)).trans hw354_0), ((HB.out.cell (World.block_lt_of_cell? w _ hw354_1)).trans hw354_1), ((HB.out.cell (World.block_lt_of_cell? w _ hw354_2)).trans hw354_2), ((HB.out.cell (World.block_lt_of_cell? w _ hw354_3)).trans hw354_3)⟩ (fun hHeld => ?_)
    clear hK K
    refine nS_ 23 ?_
    refine pS_ 3 ?_
    refine pS_ 4 ?_
    refine pS_ 5 ?_
    refine pS_ 6 ?_
    refine pS_ 7 ?_
    refine pS_ 8 ?_
    refine pS_ 10 ?_
    refine pS_ 11 ?_
    refine pS_ 12 ?_
    refine pS_ 13 ?_
    refine pS_ 14 ?_
    refine t8_ 9 hHeld ?_
    refine t8_ 15 hHeld ?_
    refine pS_ 16 ?_
    refine pS_ 17 ?_
    refine pS_ 18 ?_
    refine pS_ 19 ?_
    refine pS_ 20 ?_
    refine t8_ 21 hHeld ?_
    refine pS_ 22 ?_
    refine pS_ 23 ?_
    refine t8_ 24 hHeld ?_
    refine pS_ 25 ?_
    refine pS_ 26 ?_
    refine pS_ 27 ?_
    refine done_ (done_of HT_.out (by kernel_rfl)) ?_
    try go_wp2
    go_meet
    case rel => (try rw [← Nbq18.out]); exact ⟨_, ((((rd_T70 l0 x16_1).f1) != 2)), (by first | rfl | (simp; done) | (simp [*]; done)), H', ⟨by have := HK1.out; first | omega | exact Nat.le_refl _⟩, ⟨show MapAt (kkStr Tryz.prog 9 Tryz.underlying9) ekI64 _ gm350 x3_1 from by (with_reducible repeat (first | refine MapAt.alloc ?_ _ | refine MapAt.drewN ?_ _ | refine MapAt.drew ?_)); exact HM_3.out⟩, ⟨by (with_reducible repeat (first | refine blk_drewN ?_ _ | refine blk_drew ?_ | refine blk_alloc ?_ _)); exact BK352.out⟩, ⟨bw1_ HB GE352⟩⟩}
    {
    replace c19 := Bool.eq_false_iff.mpr c19
    subst c19
    rw [if_neg (show ¬ (false = true) by decide)] at H
    have H' := Aside0.mk H
    clear H
    try go_wp2
    have n0_ : Aside0 (((((w9.setCell ⟨gb352, 0, none⟩ (.string ((rd_T70 l0 x16_1).f0))).setCell ⟨gb352, 1, none⟩ (.int .i64 ((rd_T70 l0 x16_1).f1))).setCell ⟨gb352, 2, none⟩ (.string ((rd_T70 l0 x16_1).f2))).setCell ⟨gb352, 3, none⟩ (.bool (false))).heap[gb352]? = some (.cells #[.string ((rd_T70 l0 x16_1).f0), .int .i64 ((rd_T70 l0 x16_1).f1), .string ((rd_T70 l0 x16_1).f2), .bool false] 70 (0, 0))) := ⟨by (with_reducible repeat (first | refine blk_drewN ?_ _ | refine blk_drew ?_ | refine blk_alloc ?_ _)); refine blk_put (cs := #[.string ((rd_T70 l0 x16_1).f0), .int .i64 ((rd_T70 l0 x16_1).f1), .string ((rd_T70 l0 x16_1).f2), .bool false]) ?_ 3 _ rfl; (with_reducible repeat (first | refine blk_drewN ?_ _ | refine blk_drew ?_ | refine blk_alloc ?_ _)); refine blk_put (cs := #[.string ((rd_T70 l0 x16_1).f0), .int .i64 ((rd_T70 l0 x16_1).f1), .string (⟨#[]⟩ : ByteArray), .bool false]) ?_ 2 _ rfl; (with_reducible repeat (first | refine blk_drewN ?_ _ | refine blk_drew ?_ | refine blk_alloc ?_ _)); refine blk_put (cs := #[.string ((rd_T70 l0 x16_1).f0), .int .i64 0, .string (⟨#[]⟩ : ByteArray), .bool false]) ?_ 1 _ rfl; (with_reducible repeat (first | refine blk_drewN ?_ _ | refine blk_drew ?_ | refine blk_alloc ?_ _)); refine blk_put (cs := #[.string (⟨#[]⟩ : ByteArray), .int .i64 0, .string (⟨#[]⟩ : ByteArray), .bool false]) ?_ 0 _ rfl; (with_reducible repeat (first | refine blk_drewN ?_ _ | refine blk_drew ?_ | refine blk_alloc ?_ _)); exact BK352.out⟩
    have n1_ : Aside0 (MapAt (kkStr Tryz.prog 9 Tryz.underlying9) ekI64 ((((w9.setCell ⟨gb352, 0, none⟩ (.string ((rd_T70 l0 x16_1).f0))).setCell ⟨gb352, 1, none⟩ (.int .i64 ((rd_T70 l0 x16_1).f1))).setCell ⟨gb352, 2, none⟩ (.string ((rd_T70 l0 x16_1).f2))).setCell ⟨gb352, 3, none⟩ (.bool (false))) gm350 x3_1) := ⟨by (with_reducible repeat (first | refine MapAt.alloc ?_ _ | refine MapAt.drewN ?_ _ | refine MapAt.drew ?_ | refine MapAt.set_ ?_ _ _)); exact HM_3.out⟩
    have n2_ : Aside0 (Below w.heap.size w ((((w9.setCell ⟨gb352, 0, none⟩ (.string ((rd_T70 l0 x16_1).f0))).setCell ⟨gb352, 1, none⟩ (.int .i64 ((rd_T70 l0 x16_1).f1))).setCell ⟨gb352, 2, none⟩ (.string ((rd_T70 l0 x16_1).f2))).setCell ⟨gb352, 3, none⟩ (.bool (false)))) := ⟨bw1_ HB GE352⟩
    (try rw [← Nbq18.out])
    (try clear BK352)
    (try clear HM_3)
    (try clear HB)
    generalize ((((w9.setCell ⟨gb352, 0, none⟩ (.string ((rd_T70 l0 x16_1).f0))).setCell ⟨gb352, 1, none⟩ (.int .i64 ((rd_T70 l0 x16_1).f1))).setCell ⟨gb352, 2, none⟩ (.string ((rd_T70 l0 x16_1).f2))).setCell ⟨gb352, 3, none⟩ (.bool (false))) = w23 at n0_ n1_ n2_ ⊢
    have BK352 := n0_
    have HM_3 := n1_
    have HB := n2_
    clear n0_ n1_ n2_
    have n0_ := Aside0.mk (blk_drew BK352.out)
    have n1_ := Aside0.mk (MapAt.drew HM_3.out)
    have n2_ := Aside0.mk (below_drew1 HB.out)
    clear BK352
    clear HM_3
    clear HB
    have BK352 := n0_
    have HM_3 := n1_
    have HB := n2_
    clear n0_ n1_ n2_
    have p354 : 0 ≤ ((ji14) : Int) := dA_
    have q354 : (ji14) < (l0.length : Int) := dA_
    obtain ⟨ad354, e354, hx354_0, hx354_1, hx354_2, hx354_3⟩ := at_T70 HR0.out (ji14) p354 q354
    have hw354_3 := hx354_3
    (try rw [← Nbq18.out] at hw354_3)
    have hw354_2 := hx354_2
    (try rw [← Nbq18.out] at hw354_2)
    have hw354_1 := hx354_1
    (try rw [← Nbq18.out] at hw354_1)
    have hw354_0 := hx354_0
    (try rw [← Nbq18.out] at hw354_0)
    (try rw [← Nbq18.out] at hx354_3)
    obtain rfl : ad351 = ad354 := (by injection e354)
    replace hx354_0 := hX_ HB hx354_0
    replace hx354_1 := hX_ HB hx354_1
    replace hx354_2 := hX_ HB hx354_2
    replace hx354_3 := hX_ HB hx354_3
    replace p354 := eq_true p354
    replace q354 := eq_true q354
    refine start_ (n := 28) (S := fun w' => w'.cell? ⟨gb352, 0, none⟩ = some (.string ((rd_T70 l0 x16_1).f0)) ∧ w'.cell? ⟨gb352, 1, none⟩ = some (.int .i64 ((rd_T70 l0 x16_1).f1)) ∧ w'.cell? ⟨gb352, 2, none⟩ = some (.string ((rd_T70 l0 x16_1).f2)) ∧ w'.cell? ⟨gb352, 3, none⟩ = some (.bool false) ∧ w'.cell? (ad351.add (((ji14)).toNat * 4)) = some (.string ((rd_T70 l0 (ji14)).f0)) ∧ w'.cell? ⟨(ad351.add (((ji14)).toNat * 4)).block, (ad351.add (((ji14)).toNat * 4)).off + 1, none⟩ = some (.int .i64 ((rd_T70 l0 (ji14)).f1)) ∧ w'.cell? ⟨(ad351.add (((ji14)).toNat * 4)).block, (ad351.add (((ji14)).toNat * 4)).off + 2, none⟩ = some (.string ((rd_T70 l0 (ji14)).f2)) ∧ w'.cell? ⟨(ad351.add (((ji14)).toNat * 4)).block, (ad351.add (((ji14)).toNat * 4)).off + 3, none⟩ = some (.bool ((rd_T70 l0 (ji14)).f3))) (ds := []) (bs_ 28 0) (by kernel_rfl) rfl (by kernel_rfl) ⟨(blk_cell BK352.out 0).trans rfl, (blk_cell BK352.out 1).trans rfl, (blk_cell BK352.out 2).trans rfl, (blk_cell BK352.out 3).trans rfl, ((HB.out.cell (World.block_lt_of_cell? w _ hw354_0)).trans hw354_0), ((HB.out.cell (World.block_lt_of_cell? w _ hw354_1)).trans hw354_1), ((HB.out.cell (World.block_lt_of_cell? w _ hw354_2)).trans hw354_2), ((HB.out.cell (World.block_lt_of_cell? w _ hw354_3)).trans hw354_3)⟩ (fun hHeld => ?_); refine with_tabW impl_TreeOk.tab7 impl_TreeOk.bits7 (fun HT_ HW_ => ?_)
    generalize w23.drew = w24 at BK352 HM_3 HB hx354_0 hx354_1 hx354_2 hx354_3 hHeld ⊢
    refine pS_ 0 ?_
    refine t8_ 1 hHeld ?_
    refine oS_ 2 (fun K hK => ?_)
    refine gS_ Tryz.func87 #[.string ((rd_T70 l0 x16_1).f0)] ?_
    with_reducible refine (impl_pathOk.calls k1 ((rd_T70 l0 x16_1).f0) true _ ?side1 A11.out).mono ?_
    (case side1 => refine EnvW.below HE.out ?_; repeat (first | (with_reducible first | exact HB.out | apply below_alloc | apply pw_below_drewN | apply below_drew1 | refine below_set ?_ GE352.out) | exact HB.out))
    rintro e w25 ⟨rfl, hb⟩
    refine ⟨_, rfl, ?_⟩
    have n0_ := Aside0.mk (MapAt.below (show MapAt (kkStr Tryz.prog 9 Tryz.underlying9) ekI64 _ gm350 x3_1 from by (with_reducible repeat (first | refine MapAt.alloc ?_ _ | refine MapAt.drewN ?_ _ | refine MapAt.drew ?_)); exact HM_3.out) hb)
    have n1_ := Aside0.mk (blk_below (g := gb352) (o := .cells #[.string ((rd_T70 l0 x16_1).f0), .int .i64 ((rd_T70 l0 x16_1).f1), .string ((rd_T70 l0 x16_1).f2), .bool false] 70 (0, 0)) (by (with_reducible repeat (first | refine blk_drewN ?_ _ | refine blk_drew ?_ | refine blk_alloc ?_ _)); exact BK352.out) hb)
    have n2_ := Aside0.mk (below_step (bw1_ HB GE352) hb)
    clear HM_3
    clear BK352
    clear HB
    have HM_3 := n0_
    have BK352 := n1_
    have HB := n2_
    clear n0_ n1_ n2_
    (try clear hb)
    (try clear hb2)
    (try clear hk)
    (try clear hi)
    refine hK.out _ _ ⟨(blk_cell BK352.out 0).trans rfl, (blk_cell BK352.out 1).trans rfl, (blk_cell BK352.out 2).trans rfl, (blk_cell BK352.out 3).trans rfl, ((HB.out.cell (World.block_lt_of_cell? w _ hw354_0)).trans hw354_0), ((HB.out.cell (World.block_lt_of_cell? w _ hw354_1)).trans hw354_1), ((HB.out.cell (World.block_lt_of_cell? w _ hw354_2)).trans hw354_2), ((HB.out.cell (World.block_lt_of_cell? w _ hw354_3)).trans hw354_3)⟩ (fun hHeld => ?_)
    clear hK K
    refine nS_ 23 ?_
    refine pS_ 3 ?_
    refine pS_ 4 ?_
    refine pS_ 5 ?_
    refine pS_ 6 ?_
    refine pS_ 7 ?_
    refine pS_ 8 ?_
    refine pS_ 10 ?_
    refine pS_ 11 ?_
    refine pS_ 12 ?_
    refine pS_ 13 ?_
    refine pS_ 14 ?_
    refine t8_ 9 hHeld ?_
    refine t8_ 15 hHeld ?_
    refine pS_ 16 ?_
    refine pS_ 17 ?_
    refine pS_ 18 ?_
    refine pS_ 19 ?_
    refine pS_ 20 ?_
    refine t8_ 21 hHeld ?_
    refine pS_ 22 ?_
    refine pU_ 23 ?_
    refine pU_ 24 ?_
    refine pU_ 25 ?_
    refine pS_ 26 ?_
    refine pS_ 27 ?_
    refine done_ (done_of HT_.out (by kernel_rfl)) ?_
    try go_wp2
    go_meet
    case rel => (try rw [← Nbq18.out]); exact ⟨_, (false), (by first | rfl | (simp; done) | (simp [*]; done)), H', ⟨by have := HK1.out; first | omega | exact Nat.le_refl _⟩, ⟨show MapAt (kkStr Tryz.prog 9 Tryz.underlying9) ekI64 _ gm350 x3_1 from by (with_reducible repeat (first | refine MapAt.alloc ?_ _ | refine MapAt.drewN ?_ _ | refine MapAt.drew ?_)); exact HM_3.out⟩, ⟨by (with_reducible repeat (first | refine blk_drewN ?_ _ | refine blk_drew ?_ | refine blk_alloc ?_ _)); exact BK352.out⟩, ⟨bw1_ HB GE352⟩⟩}}
    {
    rw [if_neg c17] at H
    have c17b0 : (Op.bytesLess (((rd_T70 l0 (ji14)).f0).toList) (((rd_T70 l0 x16_1).f0).toList)) = false := by simpa using c17
    clear c17
    have H' := Aside0.mk H
    clear H
    try go_wp2
    have n0_ : Aside0 (((((w9.setCell ⟨gb352, 0, none⟩ (.string ((rd_T70 l0 x16_1).f0))).setCell ⟨gb352, 1, none⟩ (.int .i64 ((rd_T70 l0 x16_1).f1))).setCell ⟨gb352, 2, none⟩ (.string ((rd_T70 l0 x16_1).f2))).setCell ⟨gb352, 3, none⟩ (.bool ((rd_T70 l0 x16_1).f3))).heap[gb352]? = some (.cells #[.string ((rd_T70 l0 x16_1).f0), .int .i64 ((rd_T70 l0 x16_1).f1), .string ((rd_T70 l0 x16_1).f2), .bool ((rd_T70 l0 x16_1).f3)] 70 (0, 0))) := ⟨by (with_reducible repeat (first | refine blk_drewN ?_ _ | refine blk_drew ?_ | refine blk_alloc ?_ _)); refine blk_put (cs := #[.string ((rd_T70 l0 x16_1).f0), .int .i64 ((rd_T70 l0 x16_1).f1), .string ((rd_T70 l0 x16_1).f2), .bool false]) ?_ 3 _ rfl; (with_reducible repeat (first | refine blk_drewN ?_ _ | refine blk_drew ?_ | refine blk_alloc ?_ _)); refine blk_put (cs := #[.string ((rd_T70 l0 x16_1).f0), .int .i64 ((rd_T70 l0 x16_1).f1), .string (⟨#[]⟩ : ByteArray), .bool false]) ?_ 2 _ rfl; (with_reducible repeat (first | refine blk_drewN ?_ _ | refine blk_drew ?_ | refine blk_alloc ?_ _)); refine blk_put (cs := #[.string ((rd_T70 l0 x16_1).f0), .int .i64 0, .string (⟨#[]⟩ : ByteArray), .bool false]) ?_ 1 _ rfl; (with_reducible repeat (first | refine blk_drewN ?_ _ | refine blk_drew ?_ | refine blk_alloc ?_ _)); refine blk_put (cs := #[.string (⟨#[]⟩ : ByteArray), .int .i64 0, .string (⟨#[]⟩ : ByteArray), .bool false]) ?_ 0 _ rfl; (with_reducible repeat (first | refine blk_drewN ?_ _ | refine blk_drew ?_ | refine blk_alloc ?_ _)); exact BK352.out⟩
    have n1_ : Aside0 (MapAt (kkStr Tryz.prog 9 Tryz.underlying9) ekI64 ((((w9.setCell ⟨gb352, 0, none⟩ (.string ((rd_T70 l0 x16_1).f0))).setCell ⟨gb352, 1, none⟩ (.int .i64 ((rd_T70 l0 x16_1).f1))).setCell ⟨gb352, 2, none⟩ (.string ((rd_T70 l0 x16_1).f2))).setCell ⟨gb352, 3, none⟩ (.bool ((rd_T70 l0 x16_1).f3))) gm350 x3_1) := ⟨by (with_reducible repeat (first | refine MapAt.alloc ?_ _ | refine MapAt.drewN ?_ _ | refine MapAt.drew ?_ | refine MapAt.set_ ?_ _ _)); exact HM_3.out⟩
    have n2_ : Aside0 (Below w.heap.size w ((((w9.setCell ⟨gb352, 0, none⟩ (.string ((rd_T70 l0 x16_1).f0))).setCell ⟨gb352, 1, none⟩ (.int .i64 ((rd_T70 l0 x16_1).f1))).setCell ⟨gb352, 2, none⟩ (.string ((rd_T70 l0 x16_1).f2))).setCell ⟨gb352, 3, none⟩ (.bool ((rd_T70 l0 x16_1).f3)))) := ⟨bw1_ HB GE352⟩
    (try clear BK352)
    (try clear HM_3)
    (try clear HB)
    generalize ((((w9.setCell ⟨gb352, 0, none⟩ (.string ((rd_T70 l0 x16_1).f0))).setCell ⟨gb352, 1, none⟩ (.int .i64 ((rd_T70 l0 x16_1).f1))).setCell ⟨gb352, 2, none⟩ (.string ((rd_T70 l0 x16_1).f2))).setCell ⟨gb352, 3, none⟩ (.bool ((rd_T70 l0 x16_1).f3))) = w26 at n0_ n1_ n2_ ⊢
    have BK352 := n0_
    have HM_3 := n1_
    have HB := n2_
    clear n0_ n1_ n2_
    have n0_ := Aside0.mk (blk_drew BK352.out)
    have n1_ := Aside0.mk (MapAt.drew HM_3.out)
    have n2_ := Aside0.mk (below_drew1 HB.out)
    clear BK352
    clear HM_3
    clear HB
    have BK352 := n0_
    have HM_3 := n1_
    have HB := n2_
    clear n0_ n1_ n2_
    have p354 : 0 ≤ ((ji14) : Int) := dA_
    have q354 : (ji14) < (l0.length : Int) := dA_
    obtain ⟨ad354, e354, hx354_0, hx354_1, hx354_2, hx354_3⟩ := at_T70 HR0.out (ji14) p354 q354
    have hw354_3 := hx354_3
    have hw354_2 := hx354_2
    have hw354_1 := hx354_1
    have hw354_0 := hx354_0
    obtain rfl : ad351 = ad354 := (by injection e354)
    replace hx354_0 := hX_ HB hx354_0
    replace hx354_1 := hX_ HB hx354_1
    replace hx354_2 := hX_ HB hx354_2
    replace hx354_3 := hX_ HB hx354_3
    replace p354 := eq_true p354
    replace q354 := eq_true q354
    refine start_ (n := 28) (S := fun w' => w'.cell? ⟨gb352, 0, none⟩ = some (.string ((rd_T70 l0 x16_1).f0)) ∧ w'.cell? ⟨gb352, 1, none⟩ = some (.int .i64 ((rd_T70 l0 x16_1).f1)) ∧ w'.cell? ⟨gb352, 2, none⟩ = some (.string ((rd_T70 l0 x16_1).f2)) ∧ w'.cell? ⟨gb352, 3, none⟩ = some (.bool ((rd_T70 l0 x16_1).f3)) ∧ w'.cell? (ad351.add (((ji14)).toNat * 4)) = some (.string ((rd_T70 l0 (ji14)).f0)) ∧ w'.cell? ⟨(ad351.add (((ji14)).toNat * 4)).block, (ad351.add (((ji14)).toNat * 4)).off + 1, none⟩ = some (.int .i64 ((rd_T70 l0 (ji14)).f1)) ∧ w'.cell? ⟨(ad351.add (((ji14)).toNat * 4)).block, (ad351.add (((ji14)).toNat * 4)).off + 2, none⟩ = some (.string ((rd_T70 l0 (ji14)).f2)) ∧ w'.cell? ⟨(ad351.add (((ji14)).toNat * 4)).block, (ad351.add (((ji14)).toNat * 4)).off + 3, none⟩ = some (.bool ((rd_T70 l0 (ji14)).f3))) (ds := []) (bs_ 28 0) (by kernel_rfl) rfl (by kernel_rfl) ⟨(blk_cell BK352.out 0).trans rfl, (blk_cell BK352.out 1).trans rfl, (blk_cell BK352.out 2).trans rfl, (blk_cell BK352.out 3).trans rfl, ((HB.out.cell (World.block_lt_of_cell? w _ hw354_0)).trans hw354_0), ((HB.out.cell (World.block_lt_of_cell? w _ hw354_1)).trans hw354_1), ((HB.out.cell (World.block_lt_of_cell? w _ hw354_2)).trans hw354_2), ((HB.out.cell (World.block_lt_of_cell? w _ hw354_3)).trans hw354_3)⟩ (fun hHeld => ?_); refine with_tabW impl_TreeOk.tab7 impl_TreeOk.bits7 (fun HT_ HW_ => ?_)
    generalize w26.drew = w27 at BK352 HM_3 HB hx354_0 hx354_1 hx354_2 hx354_3 hHeld ⊢
    refine pS_ 0 ?_
    refine t8_ 1 hHeld ?_
    refine oS_ 2 (fun K hK => ?_)
    refine gS_ Tryz.func87 #[.string ((rd_T70 l0 x16_1).f0)] ?_
    with_reducible refine (impl_pathOk.calls k1 ((rd_T70 l0 x16_1).f0) true _ ?side1 A11.out).mono ?_
    (case side1 => refine EnvW.below HE.out ?_; repeat (first | (with_reducible first | exact HB.out | apply below_alloc | apply pw_below_drewN | apply below_drew1 | refine below_set ?_ GE352.out) | exact HB.out))
    rintro e w28 ⟨rfl, hb⟩
    refine ⟨_, rfl, ?_⟩
    have n0_ := Aside0.mk (MapAt.below (show MapAt (kkStr Tryz.prog 9 Tryz.underlying9) ekI64 _ gm350 x3_1 from by (with_reducible repeat (first | refine MapAt.alloc ?_ _ | refine MapAt.drewN ?_ _ | refine MapAt.drew ?_)); exact HM_3.out) hb)
    have n1_ := Aside0.mk (blk_below (g := gb352) (o := .cells #[.string ((rd_T70 l0 x16_1).f0), .int .i64 ((rd_T70 l0 x16_1).f1), .string ((rd_T70 l0 x16_1).f2), .bool ((rd_T70 l0 x16_1).f3)] 70 (0, 0)) (by (with_reducible repeat (first | refine blk_drewN ?_ _ | refine blk_drew ?_ | refine blk_alloc ?_ _)); exact BK352.out) hb)
    have n2_ := Aside0.mk (below_step (bw1_ HB GE352) hb)
    clear HM_3
    clear BK352
    clear HB
    have HM_3 := n0_
    have BK352 := n1_
    have HB := n2_
    clear n0_ n1_ n2_
    (try clear hb)
    (try clear hb2)
    (try clear hk)
    (try clear hi)
    refine hK.out _ _ ⟨(blk_cell BK352.out 0).trans rfl, (blk_cell BK352.out 1).trans rfl, (blk_cell BK352.out 2).trans rfl, (blk_cell BK352.out 3).trans rfl, ((HB.out.cell (World.block_lt_of_cell? w _ hw354_0)).trans hw354_0), ((HB.out.cell (World.block_lt_of_cell? w _ hw354_1)).trans hw354_1), ((HB.out.cell (World.block_lt_of_cell? w _ hw354_2)).trans hw354_2), ((HB.out.cell (World.block_lt_of_cell? w _ hw354_3)).trans hw354_3)⟩ (fun hHeld => ?_)
    clear hK K
    refine nS_ 23 ?_
    refine pS_ 3 ?_
    refine pS_ 4 ?_
    refine pS_ 5 ?_
    refine pS_ 6 ?_
    refine pS_ 7 ?_
    refine pS_ 8 ?_
    refine pS_ 10 ?_
    refine pS_ 11 ?_
    refine pS_ 12 ?_
    refine pS_ 13 ?_
    refine pS_ 14 ?_
    refine t8_ 9 hHeld ?_
    refine t8_ 15 hHeld ?_
    refine pS_ 16 ?_
    refine pS_ 17 ?_
    refine pS_ 18 ?_
    refine pS_ 19 ?_
    refine pU_ 20 ?_
    refine pU_ 21 ?_
    refine pU_ 22 ?_
    refine pU_ 23 ?_
    refine pU_ 24 ?_
    refine pU_ 25 ?_
    refine pU_ 26 ?_
    refine pS_ 27 ?_
    refine done_ (done_of HT_.out (by kernel_rfl)) ?_
    try go_wp2
    go_meet
    case rel => exact ⟨_, (true), (by first | rfl | (simp; done) | (simp [*]; done)), H', ⟨by have := HK1.out; first | omega | exact Nat.le_refl _⟩, ⟨show MapAt (kkStr Tryz.prog 9 Tryz.underlying9) ekI64 _ gm350 x3_1 from by (with_reducible repeat (first | refine MapAt.alloc ?_ _ | refine MapAt.drewN ?_ _ | refine MapAt.drew ?_)); exact HM_3.out⟩, ⟨by (with_reducible repeat (first | refine blk_drewN ?_ _ | refine blk_drew ?_ | refine blk_alloc ?_ _)); exact BK352.out⟩, ⟨bw1_ HB GE352⟩⟩}}
    {
    rw [if_neg c16] at H
    exact absurd H (by simp)}}
    {
    rw [if_neg c15] at H
    exact absurd H (by simp)}}
    {
    rw [if_neg c13] at H
    have c13b0 : decide (0 < x16_1) = false := decide_eq_false c13
    clear c13
    (first | rw [c13b0] | (simp only [i64_w, i32_w]; rw [c13b0]) | skip)
    obtain ⟨bq29, hbq29⟩ : ∃ b_ : Bool, b_ = ((rd_T70 l0 x16_1).f3) := ⟨_, rfl⟩
    replace H : (if bq29 = true then (impl_TreeOk.j1 k1 l0 x3_1 l0 (l0.length : Int) x16_1 (((rd_T70 l0 x16_1).f1) != 2) ((rd_T70 l0 x16_1).f0) ((rd_T70 l0 x16_1).f1) ((rd_T70 l0 x16_1).f2) bq29) else (impl_TreeOk.j1 k1 l0 x3_1 l0 (l0.length : Int) x16_1 false ((rd_T70 l0 x16_1).f0) ((rd_T70 l0 x16_1).f1) ((rd_T70 l0 x16_1).f2) bq29)) = some r := by rw [← hbq29] at H; exact H
    have Nbq29 := Aside0.mk hbq29
    clear hbq29
    by_cases c30 : bq29 = true
    {
    subst c30
    rw [if_pos rfl] at H
    have H' := Aside0.mk H
    clear H
    try go_wp2
    have n0_ : Aside0 (((((w9.setCell ⟨gb352, 0, none⟩ (.string ((rd_T70 l0 x16_1).f0))).setCell ⟨gb352, 1, none⟩ (.int .i64 ((rd_T70 l0 x16_1).f1))).setCell ⟨gb352, 2, none⟩ (.string ((rd_T70 l0 x16_1).f2))).setCell ⟨gb352, 3, none⟩ (.bool (true))).heap[gb352]? = some (.cells #[.string ((rd_T70 l0 x16_1).f0), .int .i64 ((rd_T70 l0 x16_1).f1), .string ((rd_T70 l0 x16_1).f2), .bool true] 70 (0, 0))) := ⟨by (with_reducible repeat (first | refine blk_drewN ?_ _ | refine blk_drew ?_ | refine blk_alloc ?_ _)); refine blk_put (cs := #[.string ((rd_T70 l0 x16_1).f0), .int .i64 ((rd_T70 l0 x16_1).f1), .string ((rd_T70 l0 x16_1).f2), .bool false]) ?_ 3 _ rfl; (with_reducible repeat (first | refine blk_drewN ?_ _ | refine blk_drew ?_ | refine blk_alloc ?_ _)); refine blk_put (cs := #[.string ((rd_T70 l0 x16_1).f0), .int .i64 ((rd_T70 l0 x16_1).f1), .string (⟨#[]⟩ : ByteArray), .bool false]) ?_ 2 _ rfl; (with_reducible repeat (first | refine blk_drewN ?_ _ | refine blk_drew ?_ | refine blk_alloc ?_ _)); refine blk_put (cs := #[.string ((rd_T70 l0 x16_1).f0), .int .i64 0, .string (⟨#[]⟩ : ByteArray), .bool false]) ?_ 1 _ rfl; (with_reducible repeat (first | refine blk_drewN ?_ _ | refine blk_drew ?_ | refine blk_alloc ?_ _)); refine blk_put (cs := #[.string (⟨#[]⟩ : ByteArray), .int .i64 0, .string (⟨#[]⟩ : ByteArray), .bool false]) ?_ 0 _ rfl; (with_reducible repeat (first | refine blk_drewN ?_ _ | refine blk_drew ?_ | refine blk_alloc ?_ _)); exact BK352.out⟩
    have n1_ : Aside0 (MapAt (kkStr Tryz.prog 9 Tryz.underlying9) ekI64 ((((w9.setCell ⟨gb352, 0, none⟩ (.string ((rd_T70 l0 x16_1).f0))).setCell ⟨gb352, 1, none⟩ (.int .i64 ((rd_T70 l0 x16_1).f1))).setCell ⟨gb352, 2, none⟩ (.string ((rd_T70 l0 x16_1).f2))).setCell ⟨gb352, 3, none⟩ (.bool (true))) gm350 x3_1) := ⟨by (with_reducible repeat (first | refine MapAt.alloc ?_ _ | refine MapAt.drewN ?_ _ | refine MapAt.drew ?_ | refine MapAt.set_ ?_ _ _)); exact HM_3.out⟩
    have n2_ : Aside0 (Below w.heap.size w ((((w9.setCell ⟨gb352, 0, none⟩ (.string ((rd_T70 l0 x16_1).f0))).setCell ⟨gb352, 1, none⟩ (.int .i64 ((rd_T70 l0 x16_1).f1))).setCell ⟨gb352, 2, none⟩ (.string ((rd_T70 l0 x16_1).f2))).setCell ⟨gb352, 3, none⟩ (.bool (true)))) := ⟨bw1_ HB GE352⟩
    (try rw [← Nbq29.out])
    (try clear BK352)
    (try clear HM_3)
    (try clear HB)
    generalize ((((w9.setCell ⟨gb352, 0, none⟩ (.string ((rd_T70 l0 x16_1).f0))).setCell ⟨gb352, 1, none⟩ (.int .i64 ((rd_T70 l0 x16_1).f1))).setCell ⟨gb352, 2, none⟩ (.string ((rd_T70 l0 x16_1).f2))).setCell ⟨gb352, 3, none⟩ (.bool (true))) = w31 at n0_ n1_ n2_ ⊢
    have BK352 := n0_
    have HM_3 := n1_
    have HB := n2_
    clear n0_ n1_ n2_
    have n0_ := Aside0.mk (blk_drew BK352.out)
    have n1_ := Aside0.mk (MapAt.drew HM_3.out)
    have n2_ := Aside0.mk (below_drew1 HB.out)
    clear BK352
    clear HM_3
    clear HB
    have BK352 := n0_
    have HM_3 := n1_
    have HB := n2_
    clear n0_ n1_ n2_
    refine start_ (n := 28) (S := fun w' => w'.cell? ⟨gb352, 0, none⟩ = some (.string ((rd_T70 l0 x16_1).f0)) ∧ w'.cell? ⟨gb352, 1, none⟩ = some (.int .i64 ((rd_T70 l0 x16_1).f1)) ∧ w'.cell? ⟨gb352, 2, none⟩ = some (.string ((rd_T70 l0 x16_1).f2)) ∧ w'.cell? ⟨gb352, 3, none⟩ = some (.bool true)) (ds := []) (bs_ 28 0) (by kernel_rfl) rfl (by kernel_rfl) ⟨(blk_cell BK352.out 0).trans rfl, (blk_cell BK352.out 1).trans rfl, (blk_cell BK352.out 2).trans rfl, (blk_cell BK352.out 3).trans rfl⟩ (fun hHeld => ?_); refine with_tabW impl_TreeOk.tab7 impl_TreeOk.bits7 (fun HT_ HW_ => ?_)
    generalize w31.drew = w32 at BK352 HM_3 HB hHeld ⊢
    refine pS_ 0 ?_
    refine t4_ 1 hHeld ?_
    refine oS_ 2 (fun K hK => ?_)
    refine gS_ Tryz.func87 #[.string ((rd_T70 l0 x16_1).f0)] ?_
    with_reducible refine (impl_pathOk.calls k1 ((rd_T70 l0 x16_1).f0) true _ ?side1 A11.out).mono ?_
    (case side1 => refine EnvW.below HE.out ?_; repeat (first | (with_reducible first | exact HB.out | apply below_alloc | apply pw_below_drewN | apply below_drew1 | refine below_set ?_ GE352.out) | exact HB.out))
    rintro e w33 ⟨rfl, hb⟩
    refine ⟨_, rfl, ?_⟩
    have n0_ := Aside0.mk (MapAt.below (show MapAt (kkStr Tryz.prog 9 Tryz.underlying9) ekI64 _ gm350 x3_1 from by (with_reducible repeat (first | refine MapAt.alloc ?_ _ | refine MapAt.drewN ?_ _ | refine MapAt.drew ?_)); exact HM_3.out) hb)
    have n1_ := Aside0.mk (blk_below (g := gb352) (o := .cells #[.string ((rd_T70 l0 x16_1).f0), .int .i64 ((rd_T70 l0 x16_1).f1), .string ((rd_T70 l0 x16_1).f2), .bool true] 70 (0, 0)) (by (with_reducible repeat (first | refine blk_drewN ?_ _ | refine blk_drew ?_ | refine blk_alloc ?_ _)); exact BK352.out) hb)
    have n2_ := Aside0.mk (below_step (bw1_ HB GE352) hb)
    clear HM_3
    clear BK352
    clear HB
    have HM_3 := n0_
    have BK352 := n1_
    have HB := n2_
    clear n0_ n1_ n2_
    (try clear hb)
    (try clear hb2)
    (try clear hk)
    (try clear hi)
    refine hK.out _ _ ⟨(blk_cell BK352.out 0).trans rfl, (blk_cell BK352.out 1).trans rfl, (blk_cell BK352.out 2).trans rfl, (blk_cell BK352.out 3).trans rfl⟩ (fun hHeld => ?_)
    clear hK K
    refine nS_ 23 ?_
    refine pS_ 3 ?_
    refine pS_ 4 ?_
    refine pS_ 5 ?_
    refine pS_ 6 ?_
    refine pS_ 7 ?_
    refine pU_ 8 ?_
    refine pU_ 9 ?_
    refine pU_ 10 ?_
    refine pU_ 11 ?_
    refine pU_ 12 ?_
    refine pU_ 13 ?_
    refine pU_ 14 ?_
    refine pU_ 15 ?_
    refine pU_ 16 ?_
    refine pS_ 17 ?_
    refine pS_ 18 ?_
    refine pS_ 19 ?_
    refine pS_ 20 ?_
    refine t4_ 21 hHeld ?_
    refine pS_ 22 ?_
    refine pS_ 23 ?_
    refine t4_ 24 hHeld ?_
    refine pS_ 25 ?_
    refine pS_ 26 ?_
    refine pS_ 27 ?_
    refine done_ (done_of HT_.out (by kernel_rfl)) ?_
    try go_wp2
    go_meet
    case rel => (try rw [← Nbq29.out]); exact ⟨_, ((((rd_T70 l0 x16_1).f1) != 2)), (by first | rfl | (simp; done) | (simp [*]; done)), H', ⟨by have := HK1.out; first | omega | exact Nat.le_refl _⟩, ⟨show MapAt (kkStr Tryz.prog 9 Tryz.underlying9) ekI64 _ gm350 x3_1 from by (with_reducible repeat (first | refine MapAt.alloc ?_ _ | refine MapAt.drewN ?_ _ | refine MapAt.drew ?_)); exact HM_3.out⟩, ⟨by (with_reducible repeat (first | refine blk_drewN ?_ _ | refine blk_drew ?_ | refine blk_alloc ?_ _)); exact BK352.out⟩, ⟨bw1_ HB GE352⟩⟩}
    {
    replace c30 := Bool.eq_false_iff.mpr c30
    subst c30
    rw [if_neg (show ¬ (false = true) by decide)] at H
    have H' := Aside0.mk H
    clear H
    try go_wp2
    have n0_ : Aside0 (((((w9.setCell ⟨gb352, 0, none⟩ (.string ((rd_T70 l0 x16_1).f0))).setCell ⟨gb352, 1, none⟩ (.int .i64 ((rd_T70 l0 x16_1).f1))).setCell ⟨gb352, 2, none⟩ (.string ((rd_T70 l0 x16_1).f2))).setCell ⟨gb352, 3, none⟩ (.bool (false))).heap[gb352]? = some (.cells #[.string ((rd_T70 l0 x16_1).f0), .int .i64 ((rd_T70 l0 x16_1).f1), .string ((rd_T70 l0 x16_1).f2), .bool false] 70 (0, 0))) := ⟨by (with_reducible repeat (first | refine blk_drewN ?_ _ | refine blk_drew ?_ | refine blk_alloc ?_ _)); refine blk_put (cs := #[.string ((rd_T70 l0 x16_1).f0), .int .i64 ((rd_T70 l0 x16_1).f1), .string ((rd_T70 l0 x16_1).f2), .bool false]) ?_ 3 _ rfl; (with_reducible repeat (first | refine blk_drewN ?_ _ | refine blk_drew ?_ | refine blk_alloc ?_ _)); refine blk_put (cs := #[.string ((rd_T70 l0 x16_1).f0), .int .i64 ((rd_T70 l0 x16_1).f1), .string (⟨#[]⟩ : ByteArray), .bool false]) ?_ 2 _ rfl; (with_reducible repeat (first | refine blk_drewN ?_ _ | refine blk_drew ?_ | refine blk_alloc ?_ _)); refine blk_put (cs := #[.string ((rd_T70 l0 x16_1).f0), .int .i64 0, .string (⟨#[]⟩ : ByteArray), .bool false]) ?_ 1 _ rfl; (with_reducible repeat (first | refine blk_drewN ?_ _ | refine blk_drew ?_ | refine blk_alloc ?_ _)); refine blk_put (cs := #[.string (⟨#[]⟩ : ByteArray), .int .i64 0, .string (⟨#[]⟩ : ByteArray), .bool false]) ?_ 0 _ rfl; (with_reducible repeat (first | refine blk_drewN ?_ _ | refine blk_drew ?_ | refine blk_alloc ?_ _)); exact BK352.out⟩
    have n1_ : Aside0 (MapAt (kkStr Tryz.prog 9 Tryz.underlying9) ekI64 ((((w9.setCell ⟨gb352, 0, none⟩ (.string ((rd_T70 l0 x16_1).f0))).setCell ⟨gb352, 1, none⟩ (.int .i64 ((rd_T70 l0 x16_1).f1))).setCell ⟨gb352, 2, none⟩ (.string ((rd_T70 l0 x16_1).f2))).setCell ⟨gb352, 3, none⟩ (.bool (false))) gm350 x3_1) := ⟨by (with_reducible repeat (first | refine MapAt.alloc ?_ _ | refine MapAt.drewN ?_ _ | refine MapAt.drew ?_ | refine MapAt.set_ ?_ _ _)); exact HM_3.out⟩
    have n2_ : Aside0 (Below w.heap.size w ((((w9.setCell ⟨gb352, 0, none⟩ (.string ((rd_T70 l0 x16_1).f0))).setCell ⟨gb352, 1, none⟩ (.int .i64 ((rd_T70 l0 x16_1).f1))).setCell ⟨gb352, 2, none⟩ (.string ((rd_T70 l0 x16_1).f2))).setCell ⟨gb352, 3, none⟩ (.bool (false)))) := ⟨bw1_ HB GE352⟩
    (try rw [← Nbq29.out])
    (try clear BK352)
    (try clear HM_3)
    (try clear HB)
    generalize ((((w9.setCell ⟨gb352, 0, none⟩ (.string ((rd_T70 l0 x16_1).f0))).setCell ⟨gb352, 1, none⟩ (.int .i64 ((rd_T70 l0 x16_1).f1))).setCell ⟨gb352, 2, none⟩ (.string ((rd_T70 l0 x16_1).f2))).setCell ⟨gb352, 3, none⟩ (.bool (false))) = w34 at n0_ n1_ n2_ ⊢
    have BK352 := n0_
    have HM_3 := n1_
    have HB := n2_
    clear n0_ n1_ n2_
    have n0_ := Aside0.mk (blk_drew BK352.out)
    have n1_ := Aside0.mk (MapAt.drew HM_3.out)
    have n2_ := Aside0.mk (below_drew1 HB.out)
    clear BK352
    clear HM_3
    clear HB
    have BK352 := n0_
    have HM_3 := n1_
    have HB := n2_
    clear n0_ n1_ n2_
    refine start_ (n := 28) (S := fun w' => w'.cell? ⟨gb352, 0, none⟩ = some (.string ((rd_T70 l0 x16_1).f0)) ∧ w'.cell? ⟨gb352, 1, none⟩ = some (.int .i64 ((rd_T70 l0 x16_1).f1)) ∧ w'.cell? ⟨gb352, 2, none⟩ = some (.string ((rd_T70 l0 x16_1).f2)) ∧ w'.cell? ⟨gb352, 3, none⟩ = some (.bool false)) (ds := []) (bs_ 28 0) (by kernel_rfl) rfl (by kernel_rfl) ⟨(blk_cell BK352.out 0).trans rfl, (blk_cell BK352.out 1).trans rfl, (blk_cell BK352.out 2).trans rfl, (blk_cell BK352.out 3).trans rfl⟩ (fun hHeld => ?_); refine with_tabW impl_TreeOk.tab7 impl_TreeOk.bits7 (fun HT_ HW_ => ?_)
    generalize w34.drew = w35 at BK352 HM_3 HB hHeld ⊢
    refine pS_ 0 ?_
    refine t4_ 1 hHeld ?_
    refine oS_ 2 (fun K hK => ?_)
    refine gS_ Tryz.func87 #[.string ((rd_T70 l0 x16_1).f0)] ?_
    with_reducible refine (impl_pathOk.calls k1 ((rd_T70 l0 x16_1).f0) true _ ?side1 A11.out).mono ?_
    (case side1 => refine EnvW.below HE.out ?_; repeat (first | (with_reducible first | exact HB.out | apply below_alloc | apply pw_below_drewN | apply below_drew1 | refine below_set ?_ GE352.out) | exact HB.out))
    rintro e w36 ⟨rfl, hb⟩
    refine ⟨_, rfl, ?_⟩
    have n0_ := Aside0.mk (MapAt.below (show MapAt (kkStr Tryz.prog 9 Tryz.underlying9) ekI64 _ gm350 x3_1 from by (with_reducible repeat (first | refine MapAt.alloc ?_ _ | refine MapAt.drewN ?_ _ | refine MapAt.drew ?_)); exact HM_3.out) hb)
    have n1_ := Aside0.mk (blk_below (g := gb352) (o := .cells #[.string ((rd_T70 l0 x16_1).f0), .int .i64 ((rd_T70 l0 x16_1).f1), .string ((rd_T70 l0 x16_1).f2), .bool false] 70 (0, 0)) (by (with_reducible repeat (first | refine blk_drewN ?_ _ | refine blk_drew ?_ | refine blk_alloc ?_ _)); exact BK352.out) hb)
    have n2_ := Aside0.mk (below_step (bw1_ HB GE352) hb)
    clear HM_3
    clear BK352
    clear HB
    have HM_3 := n0_
    have BK352 := n1_
    have HB := n2_
    clear n0_ n1_ n2_
    (try clear hb)
    (try clear hb2)
    (try clear hk)
    (try clear hi)
    refine hK.out _ _ ⟨(blk_cell BK352.out 0).trans rfl, (blk_cell BK352.out 1).trans rfl, (blk_cell BK352.out 2).trans rfl, (blk_cell BK352.out 3).trans rfl⟩ (fun hHeld => ?_)
    clear hK K
    refine nS_ 23 ?_
    refine pS_ 3 ?_
    refine pS_ 4 ?_
    refine pS_ 5 ?_
    refine pS_ 6 ?_
    refine pS_ 7 ?_
    refine pU_ 8 ?_
    refine pU_ 9 ?_
    refine pU_ 10 ?_
    refine pU_ 11 ?_
    refine pU_ 12 ?_
    refine pU_ 13 ?_
    refine pU_ 14 ?_
    refine pU_ 15 ?_
    refine pU_ 16 ?_
    refine pS_ 17 ?_
    refine pS_ 18 ?_
    refine pS_ 19 ?_
    refine pS_ 20 ?_
    refine t4_ 21 hHeld ?_
    refine pS_ 22 ?_
    refine pU_ 23 ?_
    refine pU_ 24 ?_
    refine pU_ 25 ?_
    refine pS_ 26 ?_
    refine pS_ 27 ?_
    refine done_ (done_of HT_.out (by kernel_rfl)) ?_
    try go_wp2
    go_meet
    case rel => (try rw [← Nbq29.out]); exact ⟨_, (false), (by first | rfl | (simp; done) | (simp [*]; done)), H', ⟨by have := HK1.out; first | omega | exact Nat.le_refl _⟩, ⟨show MapAt (kkStr Tryz.prog 9 Tryz.underlying9) ekI64 _ gm350 x3_1 from by (with_reducible repeat (first | refine MapAt.alloc ?_ _ | refine MapAt.drewN ?_ _ | refine MapAt.drew ?_)); exact HM_3.out⟩, ⟨by (with_reducible repeat (first | refine blk_drewN ?_ _ | refine blk_drew ?_ | refine blk_alloc ?_ _)); exact BK352.out⟩, ⟨bw1_ HB GE352⟩⟩}}}
    {
    replace c12 := Bool.eq_false_iff.mpr c12
    subst c12
    rw [if_neg (show ¬ (false = true) by decide)] at H
    have H' := Aside0.mk H
    clear H
    try go_wp2
    have n0_ : Aside0 (((((w9.setCell ⟨gb352, 0, none⟩ (.string ((rd_T70 l0 x16_1).f0))).setCell ⟨gb352, 1, none⟩ (.int .i64 ((rd_T70 l0 x16_1).f1))).setCell ⟨gb352, 2, none⟩ (.string ((rd_T70 l0 x16_1).f2))).setCell ⟨gb352, 3, none⟩ (.bool ((rd_T70 l0 x16_1).f3))).heap[gb352]? = some (.cells #[.string ((rd_T70 l0 x16_1).f0), .int .i64 ((rd_T70 l0 x16_1).f1), .string ((rd_T70 l0 x16_1).f2), .bool ((rd_T70 l0 x16_1).f3)] 70 (0, 0))) := ⟨by (with_reducible repeat (first | refine blk_drewN ?_ _ | refine blk_drew ?_ | refine blk_alloc ?_ _)); refine blk_put (cs := #[.string ((rd_T70 l0 x16_1).f0), .int .i64 ((rd_T70 l0 x16_1).f1), .string ((rd_T70 l0 x16_1).f2), .bool false]) ?_ 3 _ rfl; (with_reducible repeat (first | refine blk_drewN ?_ _ | refine blk_drew ?_ | refine blk_alloc ?_ _)); refine blk_put (cs := #[.string ((rd_T70 l0 x16_1).f0), .int .i64 ((rd_T70 l0 x16_1).f1), .string (⟨#[]⟩ : ByteArray), .bool false]) ?_ 2 _ rfl; (with_reducible repeat (first | refine blk_drewN ?_ _ | refine blk_drew ?_ | refine blk_alloc ?_ _)); refine blk_put (cs := #[.string ((rd_T70 l0 x16_1).f0), .int .i64 0, .string (⟨#[]⟩ : ByteArray), .bool false]) ?_ 1 _ rfl; (with_reducible repeat (first | refine blk_drewN ?_ _ | refine blk_drew ?_ | refine blk_alloc ?_ _)); refine blk_put (cs := #[.string (⟨#[]⟩ : ByteArray), .int .i64 0, .string (⟨#[]⟩ : ByteArray), .bool false]) ?_ 0 _ rfl; (with_reducible repeat (first | refine blk_drewN ?_ _ | refine blk_drew ?_ | refine blk_alloc ?_ _)); exact BK352.out⟩
    have n1_ : Aside0 (MapAt (kkStr Tryz.prog 9 Tryz.underlying9) ekI64 ((((w9.setCell ⟨gb352, 0, none⟩ (.string ((rd_T70 l0 x16_1).f0))).setCell ⟨gb352, 1, none⟩ (.int .i64 ((rd_T70 l0 x16_1).f1))).setCell ⟨gb352, 2, none⟩ (.string ((rd_T70 l0 x16_1).f2))).setCell ⟨gb352, 3, none⟩ (.bool ((rd_T70 l0 x16_1).f3))) gm350 x3_1) := ⟨by (with_reducible repeat (first | refine MapAt.alloc ?_ _ | refine MapAt.drewN ?_ _ | refine MapAt.drew ?_ | refine MapAt.set_ ?_ _ _)); exact HM_3.out⟩
    have n2_ : Aside0 (Below w.heap.size w ((((w9.setCell ⟨gb352, 0, none⟩ (.string ((rd_T70 l0 x16_1).f0))).setCell ⟨gb352, 1, none⟩ (.int .i64 ((rd_T70 l0 x16_1).f1))).setCell ⟨gb352, 2, none⟩ (.string ((rd_T70 l0 x16_1).f2))).setCell ⟨gb352, 3, none⟩ (.bool ((rd_T70 l0 x16_1).f3)))) := ⟨bw1_ HB GE352⟩
    (try clear BK352)
    (try clear HM_3)
    (try clear HB)
    generalize ((((w9.setCell ⟨gb352, 0, none⟩ (.string ((rd_T70 l0 x16_1).f0))).setCell ⟨gb352, 1, none⟩ (.int .i64 ((rd_T70 l0 x16_1).f1))).setCell ⟨gb352, 2, none⟩ (.string ((rd_T70 l0 x16_1).f2))).setCell ⟨gb352, 3, none⟩ (.bool ((rd_T70 l0 x16_1).f3))) = w37 at n0_ n1_ n2_ ⊢
    have BK352 := n0_
    have HM_3 := n1_
    have HB := n2_
    clear n0_ n1_ n2_
    have n0_ := Aside0.mk (blk_drew BK352.out)
    have n1_ := Aside0.mk (MapAt.drew HM_3.out)
    have n2_ := Aside0.mk (below_drew1 HB.out)
    clear BK352
    clear HM_3
    clear HB
    have BK352 := n0_
    have HM_3 := n1_
    have HB := n2_
    clear n0_ n1_ n2_
    refine start_ (n := 28) (S := fun w' => w'.cell? ⟨gb352, 0, none⟩ = some (.string ((rd_T70 l0 x16_1).f0)) ∧ w'.cell? ⟨gb352, 1, none⟩ = some (.int .i64 ((rd_T70 l0 x16_1).f1)) ∧ w'.cell? ⟨gb352, 2, none⟩ = some (.string ((rd_T70 l0 x16_1).f2)) ∧ w'.cell? ⟨gb352, 3, none⟩ = some (.bool ((rd_T70 l0 x16_1).f3))) (ds := []) (bs_ 28 0) (by kernel_rfl) rfl (by kernel_rfl) ⟨(blk_cell BK352.out 0).trans rfl, (blk_cell BK352.out 1).trans rfl, (blk_cell BK352.out 2).trans rfl, (blk_cell BK352.out 3).trans rfl⟩ (fun hHeld => ?_); refine with_tabW impl_TreeOk.tab7 impl_TreeOk.bits7 (fun HT_ HW_ => ?_)
    generalize w37.drew = w38 at BK352 HM_3 HB hHeld ⊢
    refine pS_ 0 ?_
    refine t4_ 1 hHeld ?_
    refine oS_ 2 (fun K hK => ?_)
    refine gS_ Tryz.func87 #[.string ((rd_T70 l0 x16_1).f0)] ?_
    with_reducible refine (impl_pathOk.calls k1 ((rd_T70 l0 x16_1).f0) false _ ?side1 A11.out).mono ?_
    (case side1 => refine EnvW.below HE.out ?_; repeat (first | (with_reducible first | exact HB.out | apply below_alloc | apply pw_below_drewN | apply below_drew1 | refine below_set ?_ GE352.out) | exact HB.out))
    rintro e w39 ⟨rfl, hb⟩
    refine ⟨_, rfl, ?_⟩
    have n0_ := Aside0.mk (MapAt.below (show MapAt (kkStr Tryz.prog 9 Tryz.underlying9) ekI64 _ gm350 x3_1 from by (with_reducible repeat (first | refine MapAt.alloc ?_ _ | refine MapAt.drewN ?_ _ | refine MapAt.drew ?_)); exact HM_3.out) hb)
    have n1_ := Aside0.mk (blk_below (g := gb352) (o := .cells #[.string ((rd_T70 l0 x16_1).f0), .int .i64 ((rd_T70 l0 x16_1).f1), .string ((rd_T70 l0 x16_1).f2), .bool ((rd_T70 l0 x16_1).f3)] 70 (0, 0)) (by (with_reducible repeat (first | refine blk_drewN ?_ _ | refine blk_drew ?_ | refine blk_alloc ?_ _)); exact BK352.out) hb)
    have n2_ := Aside0.mk (below_step (bw1_ HB GE352) hb)
    clear HM_3
    clear BK352
    clear HB
    have HM_3 := n0_
    have BK352 := n1_
    have HB := n2_
    clear n0_ n1_ n2_
    (try clear hb)
    (try clear hb2)
    (try clear hk)
    (try clear hi)
    refine hK.out _ _ ⟨(blk_cell BK352.out 0).trans rfl, (blk_cell BK352.out 1).trans rfl, (blk_cell BK352.out 2).trans rfl, (blk_cell BK352.out 3).trans rfl⟩ (fun hHeld => ?_)
    clear hK K
    refine nS_ 23 ?_
    refine pS_ 3 ?_
    refine pS_ 4 ?_
    refine pU_ 5 ?_
    refine pU_ 6 ?_
    refine pU_ 7 ?_
    refine pU_ 8 ?_
    refine pU_ 9 ?_
    refine pU_ 10 ?_
    refine pU_ 11 ?_
    refine pU_ 12 ?_
    refine pU_ 13 ?_
    refine pU_ 14 ?_
    refine pU_ 15 ?_
    refine pU_ 16 ?_
    refine pU_ 17 ?_
    refine pS_ 18 ?_
    refine pS_ 19 ?_
    refine pU_ 20 ?_
    refine pU_ 21 ?_
    refine pU_ 22 ?_
    refine pU_ 23 ?_
    refine pU_ 24 ?_
    refine pU_ 25 ?_
    refine pU_ 26 ?_
    refine pS_ 27 ?_
    refine done_ (done_of HT_.out (by kernel_rfl)) ?_
    try go_wp2
    go_meet
    case rel => exact ⟨_, (true), (by first | rfl | (simp; done) | (simp [*]; done)), H', ⟨by have := HK1.out; first | omega | exact Nat.le_refl _⟩, ⟨show MapAt (kkStr Tryz.prog 9 Tryz.underlying9) ekI64 _ gm350 x3_1 from by (with_reducible repeat (first | refine MapAt.alloc ?_ _ | refine MapAt.drewN ?_ _ | refine MapAt.drew ?_)); exact HM_3.out⟩, ⟨by (with_reducible repeat (first | refine blk_drewN ?_ _ | refine blk_drew ?_ | refine blk_alloc ?_ _)); exact BK352.out⟩, ⟨bw1_ HB GE352⟩⟩}
   case rest =>
    clear HC8
    try clear c1
    try clear p2
    try clear q2
    try clear c3
    try clear c8
    try clear c12
    try clear q29
    try clear c30
    obtain ⟨kq, x48_7, rfl, HA, HJ7, HM_3, BK352, HB⟩ := hcut
    cases kq with
    | zero => exact absurd HA.out (by simp [impl_TreeOk.j1])
    | succ kj7 =>
     have H := HA.out
     clear HA
     simp only [impl_TreeOk.j1] at H
     by_cases c40 : x48_7 = true
     {
     subst c40
     rw [if_pos rfl] at H
     obtain rfl := Option.some.inj H
     go_wp2
     go_ret
     exact ⟨eR_, bw1_ HB GE352⟩}
     {
     replace c40 := Bool.eq_false_iff.mpr c40
     subst c40
     rw [if_neg (show ¬ (false = true) by decide)] at H
     by_cases c41 : ((rd_T70 l0 x16_1).f1) = 1
     {
     rw [if_pos c41] at H
     have c41b0 : (((rd_T70 l0 x16_1).f1) == 1) = true := beq_iff_eq.mpr c41
     have c41b1 : (((rd_T70 l0 x16_1).f1) != 1) = false := bne_eq_false_iff_eq.mpr c41
     clear c41
     by_cases c42 : ((rd_T70 l0 x16_1).f2).toList = ([] : List UInt8)
     {
     rw [if_pos c42] at H
     have c42b0 : (((rd_T70 l0 x16_1).f2).toList == ([] : List UInt8)) = true := beq_iff_eq.mpr c42
     have c42b1 : (((rd_T70 l0 x16_1).f2).toList != ([] : List UInt8)) = false := bne_eq_false_iff_eq.mpr c42
     clear c42
     by_cases c43 : x3_1.length < 1099511627776
     {
     rw [if_pos c43] at H
     have LMc43 := Aside0.mk c43
     clear c43
     by_cases c44 : ((rd_T70 l0 x16_1).f0).size ≤ 9223372036854775807
     {
     rw [if_pos c44] at H
     have c44b0 := eq_true c44
     have c44b1 : decide (((rd_T70 l0 x16_1).f0).size ≤ 9223372036854775807) = true := decide_eq_true c44
     try have c44b2 : (9223372036854775807 < ((rd_T70 l0 x16_1).f0).size) = False := eq_false (Nat.not_lt.2 c44)
     clear c44
     obtain ⟨y355, hy355⟩ : ∃ y_ : List (ByteArray × Int), y_ = (x3_1 ++ [(((rd_T70 l0 x16_1).f0), 1)]) := ⟨_, rfl⟩
     replace H : (impl_TreeOk.l0 kj7 l0 y355 l0 (l0.length : Int) (wrap64 (x16_1 + 1))) = some r := by first | (rw [hy355]; with_reducible exact H) | (have H2_ := (Option.bind_some _ _).symm.trans H; rw [hy355]; with_reducible exact H2_) | (have H2_ := (Option.bind_some _ _).symm.trans H; with_reducible exact H2_) | with_reducible exact H | (rw [hy355]; exact H) | exact H
     have Ny355 := Aside0.mk hy355
     clear hy355
     have H' := Aside0.mk H
     clear H
     have hcz45_0 : wc.cell? ⟨gb352, 0, none⟩ = some (.string ((rd_T70 l0 x16_1).f0)) := (blk_cell BK352.out 0).trans rfl
     have hcz45_1 : wc.cell? ⟨gb352, 1, none⟩ = some (.int .i64 ((rd_T70 l0 x16_1).f1)) := (blk_cell BK352.out 1).trans rfl
     have hcz45_2 : wc.cell? ⟨gb352, 2, none⟩ = some (.string ((rd_T70 l0 x16_1).f2)) := (blk_cell BK352.out 2).trans rfl
     have hcz45_3 : wc.cell? ⟨gb352, 3, none⟩ = some (.bool ((rd_T70 l0 x16_1).f3)) := (blk_cell BK352.out 3).trans rfl
     have hfz45_0 := blk_frozen BK352.out 0
     have hfz45_1 := blk_frozen BK352.out 1
     have hfz45_2 := blk_frozen BK352.out 2
     have hfz45_3 := blk_frozen BK352.out 3
     go_wp2_with (first | ((with_reducible refine gate_put (t := 92) (p := 56) rfl ?_); (try (refine gate_guard (by rfl) ?_; dsimp only)); refine map_put (kkStr Tryz.prog 9 Tryz.underlying9) ekI64 rfl 92 3 56 _ _ rfl Tryz.underlying92 gm350 x3_1 ((rd_T70 l0 x16_1).f0) 1 rfl rfl (show ((rd_T70 l0 x16_1).f0).size ≤ 9223372036854775807 from by first | assumption | exact of_eq_true (by assumption) | exact of_decide_eq_true (by assumption) | decide | omega) rfl (by (with_reducible repeat (first | refine MapAt.alloc ?_ _ | refine MapAt.drewN ?_ _ | refine MapAt.drew ?_)); exact HM_3.out) LMc43.out ?_; intro w46 hmp hg; rw [← Ny355.out] at hmp; have n0_ := Aside0.mk (hmp); have n1_ := Aside0.mk (far_blk (show MapAt (kkStr Tryz.prog 9 Tryz.underlying9) ekI64 _ gm350 x3_1 from by (with_reducible repeat (first | refine MapAt.alloc ?_ _ | refine MapAt.drewN ?_ _ | refine MapAt.drew ?_)); exact HM_3.out) hg (show (_ : World).heap[gb352]? = some (.cells #[.string ((rd_T70 l0 x16_1).f0), .int .i64 ((rd_T70 l0 x16_1).f1), .string ((rd_T70 l0 x16_1).f2), .bool ((rd_T70 l0 x16_1).f3)] 70 (0, 0)) from by (with_reducible repeat (first | refine blk_drewN ?_ _ | refine blk_drew ?_ | refine blk_alloc ?_ _)); exact BK352.out)); have n2_ := Aside0.mk (far_below GMgm350.out (below_size (bw1_ HB GE352)) hg (bw1_ HB GE352)); clear HM_3; clear BK352; clear HB; have HM_3 := n0_; have BK352 := n1_; have HB := n2_; clear n0_ n1_ n2_; clear hmp hg))
     go_roundg kj7
     case measure => have := HK1.out; have := HJ7.out; omega
     case rel => exact ⟨(y355), (wrap64 (x16_1 + 1)), (by first | rfl | (simp; done) | (simp [*]; done)), H', ⟨by have := HK1.out; have := HJ7.out; omega⟩, ⟨show MapAt (kkStr Tryz.prog 9 Tryz.underlying9) ekI64 _ gm350 y355 from by (with_reducible repeat (first | refine MapAt.alloc ?_ _ | refine MapAt.drewN ?_ _ | refine MapAt.drew ?_)); exact HM_3.out⟩, ⟨bw1_ HB GE352⟩⟩}
     {
     rw [if_neg c44] at H
     exact absurd H (by simp)}}
     {
     rw [if_neg c43] at H
     exact absurd H (by simp)}}
     {
     rw [if_neg c42] at H
     have c42b0 : (((rd_T70 l0 x16_1).f2).toList == ([] : List UInt8)) = false := beq_eq_false_iff_ne.mpr c42
     have c42b1 : (((rd_T70 l0 x16_1).f2).toList != ([] : List UInt8)) = true := bne_iff_ne.mpr c42
     obtain rfl := Option.some.inj H
     have hcz47_0 : wc.cell? ⟨gb352, 0, none⟩ = some (.string ((rd_T70 l0 x16_1).f0)) := (blk_cell BK352.out 0).trans rfl
     have hcz47_1 : wc.cell? ⟨gb352, 1, none⟩ = some (.int .i64 ((rd_T70 l0 x16_1).f1)) := (blk_cell BK352.out 1).trans rfl
     have hcz47_2 : wc.cell? ⟨gb352, 2, none⟩ = some (.string ((rd_T70 l0 x16_1).f2)) := (blk_cell BK352.out 2).trans rfl
     have hcz47_3 : wc.cell? ⟨gb352, 3, none⟩ = some (.bool ((rd_T70 l0 x16_1).f3)) := (blk_cell BK352.out 3).trans rfl
     have hfz47_0 := blk_frozen BK352.out 0
     have hfz47_1 := blk_frozen BK352.out 1
     have hfz47_2 := blk_frozen BK352.out 2
     have hfz47_3 := blk_frozen BK352.out 3
     go_wp2
     go_ret
     exact ⟨eR_, bw1_ HB GE352⟩}}
     {
     rw [if_neg c41] at H
     have c41b0 : (((rd_T70 l0 x16_1).f1) == 1) = false := beq_eq_false_iff_ne.mpr c41
     have c41b1 : (((rd_T70 l0 x16_1).f1) != 1) = true := bne_iff_ne.mpr c41
     by_cases c48 : ((rd_T70 l0 x16_1).f1) = 2
     {
     rw [if_pos c48] at H
     have c48b0 : (((rd_T70 l0 x16_1).f1) == 2) = true := beq_iff_eq.mpr c48
     have c48b1 : (((rd_T70 l0 x16_1).f1) != 2) = false := bne_eq_false_iff_eq.mpr c48
     clear c48
     by_cases c49 : (((rd_T70 l0 x16_1).f2).size : Int) > 20000
     {
     rw [if_pos c49] at H
     have c49b0 : decide (20000 < (((rd_T70 l0 x16_1).f2).size : Int)) = true := decide_eq_true c49
     have c49b1 : decide (20000 < ((rd_T70 l0 x16_1).f2).size) = true := decide_eq_true (by omega)
     clear c49
     obtain rfl := Option.some.inj H
     have hcz50_0 : wc.cell? ⟨gb352, 0, none⟩ = some (.string ((rd_T70 l0 x16_1).f0)) := (blk_cell BK352.out 0).trans rfl
     have hcz50_1 : wc.cell? ⟨gb352, 1, none⟩ = some (.int .i64 ((rd_T70 l0 x16_1).f1)) := (blk_cell BK352.out 1).trans rfl
     have hcz50_2 : wc.cell? ⟨gb352, 2, none⟩ = some (.string ((rd_T70 l0 x16_1).f2)) := (blk_cell BK352.out 2).trans rfl
     have hcz50_3 : wc.cell? ⟨gb352, 3, none⟩ = some (.bool ((rd_T70 l0 x16_1).f3)) := (blk_cell BK352.out 3).trans rfl
     have hfz50_0 := blk_frozen BK352.out 0
     have hfz50_1 := blk_frozen BK352.out 1
     have hfz50_2 := blk_frozen BK352.out 2
     have hfz50_3 := blk_frozen BK352.out 3
     go_wp2
     go_ret
     exact ⟨eR_, bw1_ HB GE352⟩}
     {
     rw [if_neg c49] at H
     have c49b0 : decide (20000 < (((rd_T70 l0 x16_1).f2).size : Int)) = false := decide_eq_false c49
     have c49b1 : decide (20000 < ((rd_T70 l0 x16_1).f2).size) = false := decide_eq_false (by omega)
     clear c49
     have H' := Aside0.mk H
     clear H
     have hcz51_0 : wc.cell? ⟨gb352, 0, none⟩ = some (.string ((rd_T70 l0 x16_1).f0)) := (blk_cell BK352.out 0).trans rfl
     have hcz51_1 : wc.cell? ⟨gb352, 1, none⟩ = some (.int .i64 ((rd_T70 l0 x16_1).f1)) := (blk_cell BK352.out 1).trans rfl
     have hcz51_2 : wc.cell? ⟨gb352, 2, none⟩ = some (.string ((rd_T70 l0 x16_1).f2)) := (blk_cell BK352.out 2).trans rfl
     have hcz51_3 : wc.cell? ⟨gb352, 3, none⟩ = some (.bool ((rd_T70 l0 x16_1).f3)) := (blk_cell BK352.out 3).trans rfl
     have hfz51_0 := blk_frozen BK352.out 0
     have hfz51_1 := blk_frozen BK352.out 1
     have hfz51_2 := blk_frozen BK352.out 2
     have hfz51_3 := blk_frozen BK352.out 3
     go_wp2
     go_roundg kj7
     case measure => have := HK1.out; have := HJ7.out; omega
     case rel => exact ⟨(x3_1), (wrap64 (x16_1 + 1)), (by first | rfl | (simp; done) | (simp [*]; done)), H', ⟨by have := HK1.out; have := HJ7.out; omega⟩, ⟨show MapAt (kkStr Tryz.prog 9 Tryz.underlying9) ekI64 _ gm350 x3_1 from by (with_reducible repeat (first | refine MapAt.alloc ?_ _ | refine MapAt.drewN ?_ _ | refine MapAt.drew ?_)); exact HM_3.out⟩, ⟨bw1_ HB GE352⟩⟩}}
     {
     rw [if_neg c48] at H
     have c48b0 : (((rd_T70 l0 x16_1).f1) == 2) = false := beq_eq_false_iff_ne.mpr c48
     have c48b1 : (((rd_T70 l0 x16_1).f1) != 2) = true := bne_iff_ne.mpr c48
     by_cases c52 : ((rd_T70 l0 x16_1).f1) = 3
     {
     rw [if_pos c52] at H
     have c52b0 : (((rd_T70 l0 x16_1).f1) == 3) = true := beq_iff_eq.mpr c52
     have c52b1 : (((rd_T70 l0 x16_1).f1) != 3) = false := bne_eq_false_iff_eq.mpr c52
     clear c52
     by_cases c53 : (((rd_T70 l0 x16_1).f2).size : Int) < 1
     {
     rw [if_pos c53] at H
     have c53b0 : decide ((((rd_T70 l0 x16_1).f2).size : Int) < 1) = true := decide_eq_true c53
     have c53b1 : decide (((rd_T70 l0 x16_1).f2).size < 1) = true := decide_eq_true (by omega)
     clear c53
     obtain rfl := Option.some.inj H
     have hcz54_0 : wc.cell? ⟨gb352, 0, none⟩ = some (.string ((rd_T70 l0 x16_1).f0)) := (blk_cell BK352.out 0).trans rfl
     have hcz54_1 : wc.cell? ⟨gb352, 1, none⟩ = some (.int .i64 ((rd_T70 l0 x16_1).f1)) := (blk_cell BK352.out 1).trans rfl
     have hcz54_2 : wc.cell? ⟨gb352, 2, none⟩ = some (.string ((rd_T70 l0 x16_1).f2)) := (blk_cell BK352.out 2).trans rfl
     have hcz54_3 : wc.cell? ⟨gb352, 3, none⟩ = some (.bool ((rd_T70 l0 x16_1).f3)) := (blk_cell BK352.out 3).trans rfl
     have hfz54_0 := blk_frozen BK352.out 0
     have hfz54_1 := blk_frozen BK352.out 1
     have hfz54_2 := blk_frozen BK352.out 2
     have hfz54_3 := blk_frozen BK352.out 3
     go_wp2
     go_ret
     exact ⟨eR_, bw1_ HB GE352⟩}
     {
     rw [if_neg c53] at H
     have c53b0 : decide ((((rd_T70 l0 x16_1).f2).size : Int) < 1) = false := decide_eq_false c53
     have c53b1 : decide (((rd_T70 l0 x16_1).f2).size < 1) = false := decide_eq_false (by omega)
     clear c53
     by_cases c55 : (((rd_T70 l0 x16_1).f2).size : Int) > 20000
     {
     rw [if_pos c55] at H
     have c55b0 : decide (20000 < (((rd_T70 l0 x16_1).f2).size : Int)) = true := decide_eq_true c55
     have c55b1 : decide (20000 < ((rd_T70 l0 x16_1).f2).size) = true := decide_eq_true (by omega)
     clear c55
     obtain rfl := Option.some.inj H
     have hcz56_0 : wc.cell? ⟨gb352, 0, none⟩ = some (.string ((rd_T70 l0 x16_1).f0)) := (blk_cell BK352.out 0).trans rfl
     have hcz56_1 : wc.cell? ⟨gb352, 1, none⟩ = some (.int .i64 ((rd_T70 l0 x16_1).f1)) := (blk_cell BK352.out 1).trans rfl
     have hcz56_2 : wc.cell? ⟨gb352, 2, none⟩ = some (.string ((rd_T70 l0 x16_1).f2)) := (blk_cell BK352.out 2).trans rfl
     have hcz56_3 : wc.cell? ⟨gb352, 3, none⟩ = some (.bool ((rd_T70 l0 x16_1).f3)) := (blk_cell BK352.out 3).trans rfl
     have hfz56_0 := blk_frozen BK352.out 0
     have hfz56_1 := blk_frozen BK352.out 1
     have hfz56_2 := blk_frozen BK352.out 2
     have hfz56_3 := blk_frozen BK352.out 3
     go_wp2
     go_ret
     exact ⟨eR_, bw1_ HB GE352⟩}
     {
     rw [if_neg c55] at H
     have c55b0 : decide (20000 < (((rd_T70 l0 x16_1).f2).size : Int)) = false := decide_eq_false c55
     have c55b1 : decide (20000 < ((rd_T70 l0 x16_1).f2).size) = false := decide_eq_false (by omega)
     clear c55
     have H' := Aside0.mk H
     clear H
     have hcz57_0 : wc.cell? ⟨gb352, 0, none⟩ = some (.string ((rd_T70 l0 x16_1).f0)) := (blk_cell BK352.out 0).trans rfl
     have hcz57_1 : wc.cell? ⟨gb352, 1, none⟩ = some (.int .i64 ((rd_T70 l0 x16_1).f1)) := (blk_cell BK352.out 1).trans rfl
     have hcz57_2 : wc.cell? ⟨gb352, 2, none⟩ = some (.string ((rd_T70 l0 x16_1).f2)) := (blk_cell BK352.out 2).trans rfl
     have hcz57_3 : wc.cell? ⟨gb352, 3, none⟩ = some (.bool ((rd_T70 l0 x16_1).f3)) := (blk_cell BK352.out 3).trans rfl
     have hfz57_0 := blk_frozen BK352.out 0
     have hfz57_1 := blk_frozen BK352.out 1
     have hfz57_2 := blk_frozen BK352.out 2
     have hfz57_3 := blk_frozen BK352.out 3
     go_wp2
     go_roundg kj7
     case measure => have := HK1.out; have := HJ7.out; omega
     case rel => exact ⟨(x3_1), (wrap64 (x16_1 + 1)), (by first | rfl | (simp; done) | (simp [*]; done)), H', ⟨by have := HK1.out; have := HJ7.out; omega⟩, ⟨show MapAt (kkStr Tryz.prog 9 Tryz.underlying9) ekI64 _ gm350 x3_1 from by (with_reducible repeat (first | refine MapAt.alloc ?_ _ | refine MapAt.drewN ?_ _ | refine MapAt.drew ?_)); exact HM_3.out⟩, ⟨bw1_ HB GE352⟩⟩}}}
     {
     rw [if_neg c52] at H
     have c52b0 : (((rd_T70 l0 x16_1).f1) == 3) = false := beq_eq_false_iff_ne.mpr c52
     have c52b1 : (((rd_T70 l0 x16_1).f1) != 3) = true := bne_iff_ne.mpr c52
     obtain rfl := Option.some.inj H
     have hcz58_0 : wc.cell? ⟨gb352, 0, none⟩ = some (.string ((rd_T70 l0 x16_1).f0)) := (blk_cell BK352.out 0).trans rfl
     have hcz58_1 : wc.cell? ⟨gb352, 1, none⟩ = some (.int .i64 ((rd_T70 l0 x16_1).f1)) := (blk_cell BK352.out 1).trans rfl
     have hcz58_2 : wc.cell? ⟨gb352, 2, none⟩ = some (.string ((rd_T70 l0 x16_1).f2)) := (blk_cell BK352.out 2).trans rfl
     have hcz58_3 : wc.cell? ⟨gb352, 3, none⟩ = some (.bool ((rd_T70 l0 x16_1).f3)) := (blk_cell BK352.out 3).trans rfl
     have hfz58_0 := blk_frozen BK352.out 0
     have hfz58_1 := blk_frozen BK352.out 1
     have hfz58_2 := blk_frozen BK352.out 2
     have hfz58_3 := blk_frozen BK352.out 3
     go_wp2
     go_ret
     exact ⟨eR_, bw1_ HB GE352⟩}}}}}
   {
   rw [if_neg c7] at H
   exact absurd H (by simp)}}
   {
   rw [if_neg c6] at H
   exact absurd H (by simp)}}
   {
   rw [if_neg c5] at H
   have c5b0 : decide (x16_1 < (l0.length : Int)) = false := decide_eq_false c5
   clear c5
   have H' := Aside0.mk H
   clear H
   go_wp2
   go_loopg [80] k1 (fun kq v80 w' => ∃ (x80_2 : Int), v80 = .int .i64 x80_2 ∧ Aside0 (impl_TreeOk.l1 kq x3_1 l0 (l0.length : Int) x80_2 = some r) ∧ Aside0 (kq ≤ k1) ∧ Aside0 (MapAt (kkStr Tryz.prog 9 Tryz.underlying9) ekI64 w' gm350 x3_1) ∧ Aside0 (Below w.heap.size w w'))
   case atStart => exact ⟨(0), (by first | rfl | (simp; done) | (simp [*]; done)), H', ⟨Nat.le_refl _⟩, ⟨show MapAt (kkStr Tryz.prog 9 Tryz.underlying9) ekI64 _ gm350 x3_1 from by (with_reducible repeat (first | refine MapAt.alloc ?_ _ | refine MapAt.drewN ?_ _ | refine MapAt.drew ?_)); exact HM_3.out⟩, ⟨bw_ HB⟩⟩
   case round =>
    clear H'
    try clear c1
    try clear p2
    try clear q2
    try clear c3
    try clear c4
    try clear c5
    try clear c5b0
    try clear c6
    try clear p6
    try clear c7
    try clear c8
    try clear c12
    try clear q29
    try clear c30
    try clear c40
    try clear c41
    try clear c41b0
    try clear c41b1
    try clear c42
    try clear c42b0
    try clear c42b1
    try clear c43
    try clear c44
    try clear c44b0
    try clear c44b1
    try clear c44b2
    try clear c48
    try clear c48b0
    try clear c48b1
    try clear c49
    try clear c49b0
    try clear c49b1
    try clear c52
    try clear c52b0
    try clear c52b1
    try clear c53
    try clear c53b0
    try clear c53b1
    try clear c55
    try clear c55b0
    try clear c55b1
    try clear hcz45_0
    try clear hcz45_1
    try clear hcz45_2
    try clear hcz45_3
    try clear hcz47_0
    try clear hcz47_1
    try clear hcz47_2
    try clear hcz47_3
    try clear hcz50_0
    try clear hcz50_1
    try clear hcz50_2
    try clear hcz50_3
    try clear hcz51_0
    try clear hcz51_1
    try clear hcz51_2
    try clear hcz51_3
    try clear hcz54_0
    try clear hcz54_1
    try clear hcz54_2
    try clear hcz54_3
    try clear hcz56_0
    try clear hcz56_1
    try clear hcz56_2
    try clear hcz56_3
    try clear hcz57_0
    try clear hcz57_1
    try clear hcz57_2
    try clear hcz57_3
    try clear hcz58_0
    try clear hcz58_1
    try clear hcz58_2
    try clear hcz58_3
    try clear hfz45_0
    try clear hfz45_1
    try clear hfz45_2
    try clear hfz45_3
    try clear hfz47_0
    try clear hfz47_1
    try clear hfz47_2
    try clear hfz47_3
    try clear hfz50_0
    try clear hfz50_1
    try clear hfz50_2
    try clear hfz50_3
    try clear hfz51_0
    try clear hfz51_1
    try clear hfz51_2
    try clear hfz51_3
    try clear hfz54_0
    try clear hfz54_1
    try clear hfz54_2
    try clear hfz54_3
    try clear hfz56_0
    try clear hfz56_1
    try clear hfz56_2
    try clear hfz56_3
    try clear hfz57_0
    try clear hfz57_1
    try clear hfz57_2
    try clear hfz57_3
    try clear hfz58_0
    try clear hfz58_1
    try clear hfz58_2
    try clear hfz58_3
    try clear p2
    try clear q2
    try clear q29
    obtain ⟨x80_2, rfl, HA, HK2, HM_3, HB⟩ := hrel
    cases gk with
    | zero => exact absurd HA.out (by simp [impl_TreeOk.l1])
    | succ k2 =>
     have H := HA.out
     clear HA
     simp only [impl_TreeOk.l1] at H
     by_cases c59 : x80_2 < (l0.length : Int)
     {
     rw [if_pos c59] at H
     have c59b0 : decide (x80_2 < (l0.length : Int)) = true := decide_eq_true c59
     clear c59
     by_cases c60 : 0 ≤ x80_2
     {
     rw [if_pos c60] at H
     have c60b0 : decide (0 ≤ x80_2) = true := decide_eq_true c60
     clear c60
     by_cases c61 : x80_2 < (l0.length : Int)
     {
     rw [if_pos c61] at H
     have c61b0 : decide (x80_2 < (l0.length : Int)) = true := decide_eq_true c61
     clear c61
     replace H := Option.bind_eq_some_iff.mp H
     obtain ⟨⟨t358, t359⟩, A620, H⟩ := H
     have A62 := Aside0.mk A620
     clear A620
     by_cases c63 : t359 = true
     {
     subst c63
     rw [if_pos rfl] at H
     by_cases c64 : t358.size ≤ 9223372036854775807
     {
     rw [if_pos c64] at H
     have c64b0 := eq_true c64
     have c64b1 : decide (t358.size ≤ 9223372036854775807) = true := decide_eq_true c64
     try have c64b2 : (9223372036854775807 < t358.size) = False := eq_false (Nat.not_lt.2 c64)
     clear c64
     by_cases c65 : (mgetD 0 x3_1 t358) = 0
     {
     rw [if_pos c65] at H
     have c65b0 : ((mgetD 0 x3_1 t358) == 0) = true := beq_iff_eq.mpr c65
     have c65b1 : ((mgetD 0 x3_1 t358) != 0) = false := bne_eq_false_iff_eq.mpr c65
     clear c65
     obtain rfl := Option.some.inj H
     have p356 : 0 ≤ (x80_2 : Int) := dA_
     have q356 : x80_2 < (l0.length : Int) := dA_
     obtain ⟨ad356, e356, hx356_0, hx356_1, hx356_2, hx356_3⟩ := at_T70 HR0.out x80_2 p356 q356
     cases e356
     replace hx356_0 := hX_ HB hx356_0
     replace hx356_1 := hX_ HB hx356_1
     replace hx356_2 := hX_ HB hx356_2
     replace hx356_3 := hX_ HB hx356_3
     replace p356 := eq_true p356
     replace q356 := eq_true q356
     go_wp2_with (first | ((with_reducible refine gate_dst (N := 7) rfl ?_); (try (refine gate_guard (by rfl) ?_; dsimp only)); refine box_event ?hg (N := 7) ?hd (cs := #[.string (⟨#[]⟩ : ByteArray), .int .i64 0, .string (⟨#[]⟩ : ByteArray), .bool false]) (t := 70) ?hr ?_; (case hd => rfl); (case hg => rfl); (case hr => first | (go_simp; done) | (go_simp; rfl)); intro gb357 hg w66 hbox hb; have n0_ := Aside0.mk (MapAt.below (show MapAt (kkStr Tryz.prog 9 Tryz.underlying9) ekI64 _ gm350 x3_1 from by (with_reducible repeat (first | refine MapAt.alloc ?_ _ | refine MapAt.drewN ?_ _ | refine MapAt.drew ?_)); exact HM_3.out) hb); have n1_ := Aside0.mk (below_step (bw_ HB) hb); have n2_ := Aside0.mk (hbox); have n3_ := Aside0.mk ((by rw [hg]; exact (below_size (bw_ HB)) : w.heap.size ≤ gb357)); have n4_ := Aside0.mk ((by rw [hg]; exact (below_size (bw_ HB)) : w.heap.size ≤ gb357)); clear HM_3; clear HB; have HM_3 := n0_; have HB := n1_; have BK357 := n2_; have GW357 := n3_; have GE357 := n4_; clear n0_ n1_ n2_ n3_ n4_; clear hb hbox hg; have hcz67_0 : w66.cell? ⟨gb357, 0, none⟩ = some (.string (⟨#[]⟩ : ByteArray)) := (blk_cell BK357.out 0).trans rfl; have hcz67_1 : w66.cell? ⟨gb357, 1, none⟩ = some (.int .i64 0) := (blk_cell BK357.out 1).trans rfl; have hcz67_2 : w66.cell? ⟨gb357, 2, none⟩ = some (.string (⟨#[]⟩ : ByteArray)) := (blk_cell BK357.out 2).trans rfl; have hcz67_3 : w66.cell? ⟨gb357, 3, none⟩ = some (.bool false) := (blk_cell BK357.out 3).trans rfl; have hfz67_0 := blk_frozen BK357.out 0; have hfz67_1 := blk_frozen BK357.out 1; have hfz67_2 := blk_frozen BK357.out 2; have hfz67_3 := blk_frozen BK357.out 3) | ((with_reducible refine gate_callee (f := 88) rfl ?_); refine gL_ (some 87) Tryz.func88 #[.string ((rd_T70 l0 x80_2).f0)] ?_; (with_reducible refine (impl_upper.calls ((rd_T70 l0 x80_2).f0) t358 true _ A62.out).mono ?_); rintro e w' ⟨rfl, ⟨nd, rfl⟩⟩; refine ⟨_, rfl, ?_⟩) | ((with_reducible refine gate_dst (N := 94) rfl ?_); (try (refine gate_guard (by rfl) ?_; dsimp only)); refine map_look (kkStr Tryz.prog 9 Tryz.underlying9) ekI64 rfl (N := 94) rfl 92 3 _ _ rfl 0 Tryz.underlying92 rfl gm350 x3_1 t358 rfl rfl (show t358.size ≤ 9223372036854775807 from by first | assumption | exact of_eq_true (by assumption) | exact of_decide_eq_true (by assumption) | decide | omega) (by (with_reducible repeat (first | refine MapAt.alloc ?_ _ | refine MapAt.drewN ?_ _ | refine MapAt.drew ?_ | refine MapAt.set_ ?_ _ _)); exact HM_3.out) ?_; dsimp only [ekI64, ekBool]))
     go_ret
     exact ⟨eR_, bw1_ HB GE357⟩}
     {
     rw [if_neg c65] at H
     have c65b0 : ((mgetD 0 x3_1 t358) == 0) = false := beq_eq_false_iff_ne.mpr c65
     have c65b1 : ((mgetD 0 x3_1 t358) != 0) = true := bne_iff_ne.mpr c65
     have H' := Aside0.mk H
     clear H
     have p356 : 0 ≤ (x80_2 : Int) := dA_
     have q356 : x80_2 < (l0.length : Int) := dA_
     obtain ⟨ad356, e356, hx356_0, hx356_1, hx356_2, hx356_3⟩ := at_T70 HR0.out x80_2 p356 q356
     cases e356
     replace hx356_0 := hX_ HB hx356_0
     replace hx356_1 := hX_ HB hx356_1
     replace hx356_2 := hX_ HB hx356_2
     replace hx356_3 := hX_ HB hx356_3
     replace p356 := eq_true p356
     replace q356 := eq_true q356
     go_wp2_with (first | ((with_reducible refine gate_dst (N := 7) rfl ?_); (try (refine gate_guard (by rfl) ?_; dsimp only)); refine box_event ?hg (N := 7) ?hd (cs := #[.string (⟨#[]⟩ : ByteArray), .int .i64 0, .string (⟨#[]⟩ : ByteArray), .bool false]) (t := 70) ?hr ?_; (case hd => rfl); (case hg => rfl); (case hr => first | (go_simp; done) | (go_simp; rfl)); intro gb357 hg w68 hbox hb; have n0_ := Aside0.mk (MapAt.below (show MapAt (kkStr Tryz.prog 9 Tryz.underlying9) ekI64 _ gm350 x3_1 from by (with_reducible repeat (first | refine MapAt.alloc ?_ _ | refine MapAt.drewN ?_ _ | refine MapAt.drew ?_)); exact HM_3.out) hb); have n1_ := Aside0.mk (below_step (bw_ HB) hb); have n2_ := Aside0.mk (hbox); have n3_ := Aside0.mk ((by rw [hg]; exact (below_size (bw_ HB)) : w.heap.size ≤ gb357)); have n4_ := Aside0.mk ((by rw [hg]; exact (below_size (bw_ HB)) : w.heap.size ≤ gb357)); clear HM_3; clear HB; have HM_3 := n0_; have HB := n1_; have BK357 := n2_; have GW357 := n3_; have GE357 := n4_; clear n0_ n1_ n2_ n3_ n4_; clear hb hbox hg; have hcz69_0 : w68.cell? ⟨gb357, 0, none⟩ = some (.string (⟨#[]⟩ : ByteArray)) := (blk_cell BK357.out 0).trans rfl; have hcz69_1 : w68.cell? ⟨gb357, 1, none⟩ = some (.int .i64 0) := (blk_cell BK357.out 1).trans rfl; have hcz69_2 : w68.cell? ⟨gb357, 2, none⟩ = some (.string (⟨#[]⟩ : ByteArray)) := (blk_cell BK357.out 2).trans rfl; have hcz69_3 : w68.cell? ⟨gb357, 3, none⟩ = some (.bool false) := (blk_cell BK357.out 3).trans rfl; have hfz69_0 := blk_frozen BK357.out 0; have hfz69_1 := blk_frozen BK357.out 1; have hfz69_2 := blk_frozen BK357.out 2; have hfz69_3 := blk_frozen BK357.out 3) | ((with_reducible refine gate_callee (f := 88) rfl ?_); refine gL_ (some 87) Tryz.func88 #[.string ((rd_T70 l0 x80_2).f0)] ?_; (with_reducible refine (impl_upper.calls ((rd_T70 l0 x80_2).f0) t358 true _ A62.out).mono ?_); rintro e w' ⟨rfl, ⟨nd, rfl⟩⟩; refine ⟨_, rfl, ?_⟩) | ((with_reducible refine gate_dst (N := 94) rfl ?_); (try (refine gate_guard (by rfl) ?_; dsimp only)); refine map_look (kkStr Tryz.prog 9 Tryz.underlying9) ekI64 rfl (N := 94) rfl 92 3 _ _ rfl 0 Tryz.underlying92 rfl gm350 x3_1 t358 rfl rfl (show t358.size ≤ 9223372036854775807 from by first | assumption | exact of_eq_true (by assumption) | exact of_decide_eq_true (by assumption) | decide | omega) (by (with_reducible repeat (first | refine MapAt.alloc ?_ _ | refine MapAt.drewN ?_ _ | refine MapAt.drew ?_ | refine MapAt.set_ ?_ _ _)); exact HM_3.out) ?_; dsimp only [ekI64, ekBool]))
     go_roundg k2
     case measure => have := HK1.out; have := HK2.out; omega
     case rel => exact ⟨(wrap64 (x80_2 + 1)), (by first | rfl | (simp; done) | (simp [*]; done)), H', ⟨by have := HK1.out; have := HK2.out; omega⟩, ⟨show MapAt (kkStr Tryz.prog 9 Tryz.underlying9) ekI64 _ gm350 x3_1 from by (with_reducible repeat (first | refine MapAt.alloc ?_ _ | refine MapAt.drewN ?_ _ | refine MapAt.drew ?_ | refine MapAt.set_ ?_ _ _)); exact HM_3.out⟩, ⟨bw1_ HB GE357⟩⟩}}
     {
     rw [if_neg c64] at H
     exact absurd H (by simp)}}
     {
     replace c63 := Bool.eq_false_iff.mpr c63
     subst c63
     rw [if_neg (show ¬ (false = true) by decide)] at H
     have H' := Aside0.mk H
     clear H
     have p356 : 0 ≤ (x80_2 : Int) := dA_
     have q356 : x80_2 < (l0.length : Int) := dA_
     obtain ⟨ad356, e356, hx356_0, hx356_1, hx356_2, hx356_3⟩ := at_T70 HR0.out x80_2 p356 q356
     cases e356
     replace hx356_0 := hX_ HB hx356_0
     replace hx356_1 := hX_ HB hx356_1
     replace hx356_2 := hX_ HB hx356_2
     replace hx356_3 := hX_ HB hx356_3
     replace p356 := eq_true p356
     replace q356 := eq_true q356
     go_wp2_with (first | ((with_reducible refine gate_dst (N := 7) rfl ?_); (try (refine gate_guard (by rfl) ?_; dsimp only)); refine box_event ?hg (N := 7) ?hd (cs := #[.string (⟨#[]⟩ : ByteArray), .int .i64 0, .string (⟨#[]⟩ : ByteArray), .bool false]) (t := 70) ?hr ?_; (case hd => rfl); (case hg => rfl); (case hr => first | (go_simp; done) | (go_simp; rfl)); intro gb357 hg w70 hbox hb; have n0_ := Aside0.mk (MapAt.below (show MapAt (kkStr Tryz.prog 9 Tryz.underlying9) ekI64 _ gm350 x3_1 from by (with_reducible repeat (first | refine MapAt.alloc ?_ _ | refine MapAt.drewN ?_ _ | refine MapAt.drew ?_)); exact HM_3.out) hb); have n1_ := Aside0.mk (below_step (bw_ HB) hb); have n2_ := Aside0.mk (hbox); have n3_ := Aside0.mk ((by rw [hg]; exact (below_size (bw_ HB)) : w.heap.size ≤ gb357)); have n4_ := Aside0.mk ((by rw [hg]; exact (below_size (bw_ HB)) : w.heap.size ≤ gb357)); clear HM_3; clear HB; have HM_3 := n0_; have HB := n1_; have BK357 := n2_; have GW357 := n3_; have GE357 := n4_; clear n0_ n1_ n2_ n3_ n4_; clear hb hbox hg; have hcz71_0 : w70.cell? ⟨gb357, 0, none⟩ = some (.string (⟨#[]⟩ : ByteArray)) := (blk_cell BK357.out 0).trans rfl; have hcz71_1 : w70.cell? ⟨gb357, 1, none⟩ = some (.int .i64 0) := (blk_cell BK357.out 1).trans rfl; have hcz71_2 : w70.cell? ⟨gb357, 2, none⟩ = some (.string (⟨#[]⟩ : ByteArray)) := (blk_cell BK357.out 2).trans rfl; have hcz71_3 : w70.cell? ⟨gb357, 3, none⟩ = some (.bool false) := (blk_cell BK357.out 3).trans rfl; have hfz71_0 := blk_frozen BK357.out 0; have hfz71_1 := blk_frozen BK357.out 1; have hfz71_2 := blk_frozen BK357.out 2; have hfz71_3 := blk_frozen BK357.out 3) | ((with_reducible refine gate_callee (f := 88) rfl ?_); refine gL_ (some 87) Tryz.func88 #[.string ((rd_T70 l0 x80_2).f0)] ?_; (with_reducible refine (impl_upper.calls ((rd_T70 l0 x80_2).f0) t358 false _ A62.out).mono ?_); rintro e w' ⟨rfl, ⟨nd, rfl⟩⟩; refine ⟨_, rfl, ?_⟩))
     go_roundg k2
     case measure => have := HK1.out; have := HK2.out; omega
     case rel => exact ⟨(wrap64 (x80_2 + 1)), (by first | rfl | (simp; done) | (simp [*]; done)), H', ⟨by have := HK1.out; have := HK2.out; omega⟩, ⟨show MapAt (kkStr Tryz.prog 9 Tryz.underlying9) ekI64 _ gm350 x3_1 from by (with_reducible repeat (first | refine MapAt.alloc ?_ _ | refine MapAt.drewN ?_ _ | refine MapAt.drew ?_ | refine MapAt.set_ ?_ _ _)); exact HM_3.out⟩, ⟨bw1_ HB GE357⟩⟩}}
     {
     rw [if_neg c61] at H
     exact absurd H (by simp)}}
     {
     rw [if_neg c60] at H
     exact absurd H (by simp)}}
     {
     rw [if_neg c59] at H
     have c59b0 : decide (x80_2 < (l0.length : Int)) = false := decide_eq_false c59
     clear c59
     obtain rfl := Option.some.inj H
     go_wp2
     go_ret
     exact ⟨eR_, bw_ HB⟩
}}}
end Go.Proofs.YtkhhkpjeafknpaaGreatDoor.P
end

section
namespace Go.Proofs.YtkhhkpjeafknpaaGreatDoor.P
open Go.RowKit Go.Proofs.YtkhhkpjeafknpaaGreatDoorW.PrintWords Go.Proofs.YtkhhkpjeafknpaaGreatDoorW.PrintLast Go.Proofs.YtkhhkpjeafknpaaGreatDoorW.PrintMore Go.Proofs.YtkhhkpjeafknpaaGreatDoorM
attribute [local go_sem] max2_int min2_int max_two min_two max_three min_three max_four min_four
set_option linter.unusedVariables false
set_option linter.unusedSimpArgs false
def spec_l10Find.l0 : Nat → List (S70) → ByteArray → Int → Int → Option (Int)
 | 0, _, _, _, _ => none
 | k + 1, x0, x1, x5, x6 => if x5 < x6 then (if 0 ≤ (wrap64 (Int.tdiv (wrap64 (x5 + x6)) 2)) then (if (wrap64 (Int.tdiv (wrap64 (x5 + x6)) 2)) < (x0.length : Int) then (if (Op.bytesLess (((rd_T70 x0 (wrap64 (Int.tdiv (wrap64 (x5 + x6)) 2))).f0).toList) x1.toList) = true then (spec_l10Find.l0 k x0 x1 (wrap64 ((wrap64 (Int.tdiv (wrap64 (x5 + x6)) 2)) + 1)) x6) else (spec_l10Find.l0 k x0 x1 x5 (wrap64 (Int.tdiv (wrap64 (x5 + x6)) 2)))) else (none)) else (none)) else (if x5 < (x0.length : Int) then (if 0 ≤ x5 then (if ((rd_T70 x0 x5).f0).toList = x1.toList then (some x5) else (some (-1))) else (none)) else (some (-1)))
def spec_l10Find.f (k : Nat) (l0 : List (S70)) (a1 : ByteArray) : Option (Int) := spec_l10Find.l0 k l0 a1 0 (l0.length : Int)
set_option maxHeartbeats 8000000 in
set_option maxRecDepth 100000 in
theorem spec_l10Find.calls (k : Nat) (A0 : Option Addr) (c0 : Nat) (l0 : List (S70)) (a1 : ByteArray) (r : Int) (w : World) (hr0 : Kd.C k70 w A0 l0.length l0) (hc0 : l0.length ≤ c0) (h : spec_l10Find.f k l0 a1 = some r) :
 Calls Tryz.prog 93 #[.slice A0 l0.length c0, .string a1] w fun e w' => e = .returned (.int .i64 r) ∧ Drawn0 w w' := by
 have HR0 := Aside0.mk hr0
 have HC0 := Aside0.mk hc0
 clear hr0 hc0
 have H : (spec_l10Find.l0 k l0 a1 0 (l0.length : Int)) = some r := h
 clear h
 have H' := Aside0.mk H
 clear H
 go_enter Tryz.func93, Tryz.ntmps93
 go_wp2
 go_loopg [5, 6] k (fun kq v5 v6 w' => ∃ (x5_1 : Int) (x6_1 : Int), v5 = .int .i64 x5_1 ∧ v6 = .int .i64 x6_1 ∧ Aside0 (spec_l10Find.l0 kq l0 a1 x5_1 x6_1 = some r) ∧ Aside0 (kq ≤ k) ∧ Drawn0 w w')
 case atStart => exact ⟨(0), ((l0.length : Int)), (by first | rfl | (simp; done) | (simp [*]; done)), (by first | rfl | (simp; done) | (simp [*]; done)), H', ⟨Nat.le_refl _⟩, dR_⟩
 case round =>
  clear H'
  try clear p2
  obtain ⟨x5_1, x6_1, rfl, rfl, HA, HK1, ⟨m1, rfl⟩⟩ := hrel
  cases gk with
  | zero => exact absurd HA.out (by simp [spec_l10Find.l0])
  | succ k1 =>
   have H := HA.out
   clear HA
   simp only [spec_l10Find.l0] at H
   by_cases c3 : x5_1 < x6_1
   {
   rw [if_pos c3] at H
   have c3b0 : decide (x5_1 < x6_1) = true := decide_eq_true c3
   clear c3
   obtain ⟨ji4, hji4⟩ : ∃ j_ : Int, (wrap64 (Int.tdiv (wrap64 (x5_1 + x6_1)) 2)) = j_ := ⟨_, rfl⟩
   replace H : (if 0 ≤ (ji4) then (if (ji4) < (l0.length : Int) then (if (Op.bytesLess (((rd_T70 l0 (ji4)).f0).toList) a1.toList) = true then (spec_l10Find.l0 k1 l0 a1 (wrap64 ((ji4) + 1)) x6_1) else (spec_l10Find.l0 k1 l0 a1 x5_1 ji4)) else (none)) else (none)) = some r := by first | (rw [hji4] at H; exact H) | (simp only [hji4] at H ⊢; exact H)
   have hji4w : (IntKind.i64.wrap (Int.tdiv (wrap64 (x5_1 + x6_1)) 2)) = ji4 := (i64_w _).trans hji4
   by_cases c5 : 0 ≤ (ji4)
   {
   rw [if_pos c5] at H
   have c5b0 : decide (0 ≤ (ji4)) = true := decide_eq_true c5
   clear c5
   by_cases c6 : (ji4) < (l0.length : Int)
   {
   rw [if_pos c6] at H
   have c6b0 : decide ((ji4) < (l0.length : Int)) = true := decide_eq_true c6
   clear c6
   by_cases c7 : (Op.bytesLess (((rd_T70 l0 (ji4)).f0).toList) a1.toList) = true
   {
   rw [if_pos c7] at H
   have c7b0 : (Op.bytesLess (((rd_T70 l0 (ji4)).f0).toList) a1.toList) = true := c7
   clear c7
   have H' := Aside0.mk H
   clear H
   have p135 : 0 ≤ ((ji4) : Int) := dA_
   have q135 : (ji4) < (l0.length : Int) := dA_
   obtain ⟨ad135, e135, hx135_0, hx135_1, hx135_2, hx135_3⟩ := at_T70 HR0.out (ji4) p135 q135
   cases e135
   replace p135 := eq_true p135
   replace q135 := eq_true q135
   go_wp2
   go_roundg k1
   case measure => have := HK1.out; omega
   case rel => exact ⟨(wrap64 ((ji4) + 1)), (x6_1), (by first | rfl | (simp; done) | (simp only [← hji4] <;> (first | rfl | simp)) | (simp [*]; done)), (by first | rfl | (simp; done) | (simp [*]; done)), H', ⟨by have := HK1.out; omega⟩, dR_⟩}
   {
   rw [if_neg c7] at H
   have c7b0 : (Op.bytesLess (((rd_T70 l0 (ji4)).f0).toList) a1.toList) = false := by simpa using c7
   clear c7
   have H' := Aside0.mk H
   clear H
   have p135 : 0 ≤ ((ji4) : Int) := dA_
   have q135 : (ji4) < (l0.length : Int) := dA_
   obtain ⟨ad135, e135, hx135_0, hx135_1, hx135_2, hx135_3⟩ := at_T70 HR0.out (ji4) p135 q135
   cases e135
   replace p135 := eq_true p135
   replace q135 := eq_true q135
   go_wp2
   go_roundg k1
   case measure => have := HK1.out; omega
   case rel => exact ⟨(x5_1), (ji4), (by first | rfl | (simp; done) | (simp [*]; done)), (by first | rfl | (simp; done) | (simp only [← hji4] <;> (first | rfl | simp)) | (simp [*]; done)), H', ⟨by have := HK1.out; omega⟩, dR_⟩}}
   {
   rw [if_neg c6] at H
   exact absurd H (by simp)}}
   {
   rw [if_neg c5] at H
   exact absurd H (by simp)}}
   {
   rw [if_neg c3] at H
   have c3b0 : decide (x5_1 < x6_1) = false := decide_eq_false c3
   clear c3
   by_cases c8 : x5_1 < (l0.length : Int)
   {
   rw [if_pos c8] at H
   have c8b0 : decide (x5_1 < (l0.length : Int)) = true := decide_eq_true c8
   clear c8
   by_cases c9 : 0 ≤ x5_1
   {
   rw [if_pos c9] at H
   have c9b0 : decide (0 ≤ x5_1) = true := decide_eq_true c9
   clear c9
   by_cases c10 : ((rd_T70 l0 x5_1).f0).toList = a1.toList
   {
   rw [if_pos c10] at H
   have c10b0 : (((rd_T70 l0 x5_1).f0).toList == a1.toList) = true := beq_iff_eq.mpr c10
   have c10b1 : (((rd_T70 l0 x5_1).f0).toList != a1.toList) = false := bne_eq_false_iff_eq.mpr c10
   clear c10
   obtain rfl := Option.some.inj H
   have p136 : 0 ≤ (x5_1 : Int) := dA_
   have q136 : x5_1 < (l0.length : Int) := dA_
   obtain ⟨ad136, e136, hx136_0, hx136_1, hx136_2, hx136_3⟩ := at_T70 HR0.out x5_1 p136 q136
   cases e136
   replace p136 := eq_true p136
   replace q136 := eq_true q136
   go_wp2
   go_ret
   exact ⟨eS_, dR_⟩}
   {
   rw [if_neg c10] at H
   have c10b0 : (((rd_T70 l0 x5_1).f0).toList == a1.toList) = false := beq_eq_false_iff_ne.mpr c10
   have c10b1 : (((rd_T70 l0 x5_1).f0).toList != a1.toList) = true := bne_iff_ne.mpr c10
   obtain rfl := Option.some.inj H
   have p136 : 0 ≤ (x5_1 : Int) := dA_
   have q136 : x5_1 < (l0.length : Int) := dA_
   obtain ⟨ad136, e136, hx136_0, hx136_1, hx136_2, hx136_3⟩ := at_T70 HR0.out x5_1 p136 q136
   cases e136
   replace p136 := eq_true p136
   replace q136 := eq_true q136
   go_wp2
   go_ret
   exact ⟨eS_, dR_⟩}}
   {
   rw [if_neg c9] at H
   exact absurd H (by simp)}}
   {
   rw [if_neg c8] at H
   have c8b0 : decide (x5_1 < (l0.length : Int)) = false := decide_eq_false c8
   clear c8
   obtain rfl := Option.some.inj H
   go_wp2
   go_ret
   exact ⟨eS_, dR_⟩
}}
def spec_l10Dir.f (k : Nat) (l0 : List (S70)) (a1 : ByteArray) : Option (Bool) := (spec_l10Find.f k l0 a1).bind fun t137 => (if t137 ≥ 0 then (if 0 ≤ t137 then (if t137 < (l0.length : Int) then (some (((rd_T70 l0 t137).f1) == 1)) else (none)) else (none)) else (some false))
set_option maxHeartbeats 8000000 in
set_option maxRecDepth 100000 in
theorem spec_l10Dir.calls (k : Nat) (A0 : Option Addr) (c0 : Nat) (l0 : List (S70)) (a1 : ByteArray) (r : Bool) (w : World) (hr0 : Kd.C k70 w A0 l0.length l0) (hc0 : l0.length ≤ c0) (h : spec_l10Dir.f k l0 a1 = some r) :
 Calls Tryz.prog 71 #[.slice A0 l0.length c0, .string a1] w fun e w' => e = .returned (.bool r) ∧ Drawn0 w w' := by
 have HR0 := Aside0.mk hr0
 have HC0 := Aside0.mk hc0
 clear hr0 hc0
 have H : ((spec_l10Find.f k l0 a1).bind fun t137 => (if t137 ≥ 0 then (if 0 ≤ t137 then (if t137 < (l0.length : Int) then (some (((rd_T70 l0 t137).f1) == 1)) else (none)) else (none)) else (some false))) = some r := h
 clear h
 replace H := Option.bind_eq_some_iff.mp H
 obtain ⟨t137, A30, H⟩ := H
 have A3 := Aside0.mk A30
 clear A30
 by_cases c4 : t137 ≥ 0
 {
 rw [if_pos c4] at H
 have c4b0 : decide (0 ≤ t137) = true := decide_eq_true c4
 clear c4
 by_cases c5 : 0 ≤ t137
 {
 rw [if_pos c5] at H
 have c5b0 : decide (0 ≤ t137) = true := decide_eq_true c5
 clear c5
 by_cases c6 : t137 < (l0.length : Int)
 {
 rw [if_pos c6] at H
 have c6b0 : decide (t137 < (l0.length : Int)) = true := decide_eq_true c6
 clear c6
 obtain rfl := Option.some.inj H
 go_enter Tryz.func71, Tryz.ntmps71
 go_wp2_with (first | ((with_reducible refine gate_callee (f := 93) rfl ?_); refine gL_ (some 8) Tryz.func93 #[.slice A0 l0.length c0, .string a1] ?_; (with_reducible refine (spec_l10Find.calls k _ _ l0 a1 t137 _ ?side1 ?side2 A3.out).mono ?_); (case side1 => repeat (first | exact HR0.out | (with_reducible refine Kd.C_alloc ?_ _) | (with_reducible refine Kd.C_drewN ?_ _) | (with_reducible refine Kd.C_drew ?_))); (case side2 => exact HC0.out); rintro e w' ⟨rfl, ⟨nd, rfl⟩⟩; refine ⟨_, rfl, ?_⟩; have p138 : 0 ≤ (t137 : Int) := dA_; have q138 : t137 < (l0.length : Int) := dA_; obtain ⟨ad138, e138, hx138_0, hx138_1, hx138_2, hx138_3⟩ := at_T70 HR0.out t137 p138 q138; cases e138; replace p138 := eq_true p138; replace q138 := eq_true q138))
 go_ret
 exact ⟨eS_, dR_⟩}
 {
 rw [if_neg c6] at H
 exact absurd H (by simp)}}
 {
 rw [if_neg c5] at H
 exact absurd H (by simp)}}
 {
 rw [if_neg c4] at H
 have c4b0 : decide (0 ≤ t137) = false := decide_eq_false c4
 clear c4
 obtain rfl := Option.some.inj H
 go_enter Tryz.func71, Tryz.ntmps71
 go_wp2_with (first | ((with_reducible refine gate_callee (f := 93) rfl ?_); refine gL_ (some 8) Tryz.func93 #[.slice A0 l0.length c0, .string a1] ?_; (with_reducible refine (spec_l10Find.calls k _ _ l0 a1 t137 _ ?side1 ?side2 A3.out).mono ?_); (case side1 => repeat (first | exact HR0.out | (with_reducible refine Kd.C_alloc ?_ _) | (with_reducible refine Kd.C_drewN ?_ _) | (with_reducible refine Kd.C_drew ?_))); (case side2 => exact HC0.out); rintro e w' ⟨rfl, ⟨nd, rfl⟩⟩; refine ⟨_, rfl, ?_⟩))
 go_ret
 exact ⟨eS_, dR_⟩
}
end Go.Proofs.YtkhhkpjeafknpaaGreatDoor.P
end
