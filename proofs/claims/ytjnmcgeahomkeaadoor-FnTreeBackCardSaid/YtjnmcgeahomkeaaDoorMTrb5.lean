/- Texts of Trb, put together by program. -/
import Derived.Test.YtjnmcgeahomkeaaDoorMTrb2
import Derived.Test.YtjnmcgeahomkeaaDoorMTrb3
import Derived.Test.YtjnmcgeahomkeaaDoorMTrb4

section
namespace Go.Proofs.YtjnmcgeahomkeaaDoor.P
open Go.RowKit Go.Proofs.YtjnmcgeahomkeaaDoorW.PrintWords Go.Proofs.YtjnmcgeahomkeaaDoorW.PrintLast Go.Proofs.YtjnmcgeahomkeaaDoorW.PrintMore Go.Proofs.YtjnmcgeahomkeaaDoorM
attribute [local go_sem] max2_int min2_int max_two min_two max_three min_three max_four min_four
set_option linter.unusedVariables false
set_option linter.unusedSimpArgs false
set_option maxHeartbeats 8000000
set_option maxRecDepth 100000
def impl_UnpackTree.Bx (W : World) (gk gi gs : Nat) (s : ByteArray) (i : Nat) (b : Bool) : Prop :=
 W.heap[gk]? = some (.cells #[.bool b] 4 (0, 0)) ∧ W.heap[gi]? = some (.cells #[.int .i64 i] 3 (0, 0)) ∧ W.heap[gs]? = some (.cells #[.string s] 9 (0, 0))
def impl_UnpackTree.Fr (w w' : World) (gk gi : Nat) : Prop := w.heap.size ≤ w'.heap.size ∧ (w'.os = w.os ∧ w'.tape = w.tape ∧ w'.output = w.output) ∧ ∀ k, k < w.heap.size → k ≠ gk → k ≠ gi → w'.heap[k]? = w.heap[k]?
theorem impl_UnpackTree.Fr.refl (w : World) (gk gi : Nat) : impl_UnpackTree.Fr w w gk gi := ⟨Nat.le_refl _, ⟨rfl, rfl, rfl⟩, fun _ _ _ _ => rfl⟩
theorem impl_UnpackTree.Fr.trans {w w1 w2 : World} {gk gi : Nat} (h : impl_UnpackTree.Fr w w1 gk gi) (h2 : impl_UnpackTree.Fr w1 w2 gk gi) : impl_UnpackTree.Fr w w2 gk gi :=
 ⟨Nat.le_trans h.1 h2.1, ⟨h2.2.1.1.trans h.2.1.1, h2.2.1.2.1.trans h.2.1.2.1, h2.2.1.2.2.trans h.2.1.2.2⟩, fun k hk h3 h4 => (h2.2.2 k (Nat.lt_of_lt_of_le hk h.1) h3 h4).trans (h.2.2 k hk h3 h4)⟩
theorem impl_UnpackTree.Fr.setk (w : World) (gk gi j : Nat) (v : Value) : impl_UnpackTree.Fr w (w.setCell ⟨gk, j, none⟩ v) gk gi :=
 ⟨by simp [World.setCell], ⟨rfl, rfl, rfl⟩, fun k _ h _ => Below.heap_setCell w ⟨gk, j, none⟩ v k h⟩
theorem impl_UnpackTree.Fr.seti (w : World) (gk gi j : Nat) (v : Value) : impl_UnpackTree.Fr w (w.setCell ⟨gi, j, none⟩ v) gk gi :=
 ⟨by simp [World.setCell], ⟨rfl, rfl, rfl⟩, fun k _ _ h => Below.heap_setCell w ⟨gi, j, none⟩ v k h⟩
theorem impl_UnpackTree.Fr.drewN (w : World) (gk gi n : Nat) : impl_UnpackTree.Fr w (w.drewN n) gk gi := ⟨Nat.le_refl _, ⟨rfl, rfl, rfl⟩, fun _ _ _ _ => rfl⟩
theorem impl_UnpackTree.Fr.alloc (w : World) (gk gi : Nat) (o : Obj) : impl_UnpackTree.Fr w (w.alloc o) gk gi :=
 ⟨by show w.heap.size ≤ (w.heap.push _).size; rw [Array.size_push]; omega, ⟨rfl, rfl, rfl⟩, fun k hk _ _ => by
  show (w.heap.push _)[k]? = _
  rw [Array.getElem?_push_lt hk, Array.getElem?_eq_getElem hk]⟩
theorem impl_UnpackTree.Bx.setk {w : World} {gk gi gs : Nat} {s : ByteArray} {i : Nat} {b : Bool} (h : impl_UnpackTree.Bx w gk gi gs s i b) (b' : Bool) : impl_UnpackTree.Bx (w.setCell ⟨gk, 0, none⟩ (.bool b')) gk gi gs s i b' := by
 have h1 := blk_ne h.2.1 h.1 (by decide)
 have h2 := blk_ne h.2.2 h.1 (by decide)
 exact ⟨by have := blk_set h.1 0 (.bool b'); simpa using this, (Below.heap_setCell w ⟨gk, 0, none⟩ _ gi h1).trans h.2.1, (Below.heap_setCell w ⟨gk, 0, none⟩ _ gs h2).trans h.2.2⟩
theorem impl_UnpackTree.Bx.seti {w : World} {gk gi gs : Nat} {s : ByteArray} {i : Nat} {b : Bool} (h : impl_UnpackTree.Bx w gk gi gs s i b) (i' : Nat) : impl_UnpackTree.Bx (w.setCell ⟨gi, 0, none⟩ (.int .i64 i')) gk gi gs s i' b := by
 have h1 := blk_ne h.1 h.2.1 (by decide)
 have h2 := blk_ne h.2.2 h.2.1 (by decide)
 exact ⟨(Below.heap_setCell w ⟨gi, 0, none⟩ _ gk h1).trans h.1, by have := blk_set h.2.1 0 (.int .i64 i'); simpa using this, (Below.heap_setCell w ⟨gi, 0, none⟩ _ gs h2).trans h.2.2⟩
def impl_UnpackTree.numL : Nat → ByteArray → Nat → Nat → Nat → Bool → Option (Nat × Nat × Bool)
 | 0, _, _, _, _, _ => none
 | k + 1, s, n, j, i, b => if b = true then (if s.size ≤ i then some (0, i, false) else if 28 < 7 * j then some (0, i, false) else if bt s i < 128 then some (n + (bt s i % 128).toNat * 2 ^ (7 * j), i + 1, b) else impl_UnpackTree.numL k s (n + (bt s i % 128).toNat * 2 ^ (7 * j)) (j + 1) (i + 1) b) else some (n, i, b)
theorem impl_UnpackTree.bits_or (x y : Nat) (hx : x < 9223372036854775808) (hy : y < 9223372036854775808) : Go.bits .or .i64 (x : Int) (y : Int) = ((x ||| y : Nat) : Int) := by
 have hbx : (BitVec.ofInt 64 (x : Int)).toNat = x := by rw [BitVec.toNat_ofInt]; omega
 have hby : (BitVec.ofInt 64 (y : Int)).toNat = y := by rw [BitVec.toNat_ofInt]; omega
 have hor : x ||| y < 9223372036854775808 := Nat.or_lt_two_pow (n := 63) hx hy
 unfold Go.bits
 show IntKind.i64.wrap (((BitVec.ofInt 64 (x : Int)) ||| (BitVec.ofInt 64 (y : Int))).toNat : Int) = _
 rw [BitVec.toNat_or, hbx, hby, IntKind.wrap_i64]
 omega
theorem impl_UnpackTree.small (n p c : Nat) (hc : c < 256) (hnp : n < p) (hpl : p ≤ 268435456) : c % 128 * p < 9223372036854775808 ∧ n < 9223372036854775808 ∧ n + c % 128 * p < p * 128 ∧ wrap64 ((c % 128 * p : Nat) : Int) = ((c % 128 * p : Nat) : Int) ∧ wrap64 ((c : Int) % 128) = (c : Int) % 128 ∧ ((c : Int) % 128) * (p : Int) = ((c % 128 * p : Nat) : Int) := by
 have hm : c % 128 * p ≤ 127 * p := Nat.mul_le_mul_right p (by omega)
 refine ⟨by omega, by omega, by omega, by unfold wrap64; omega, by unfold wrap64; omega, by push_cast; rfl⟩
theorem impl_UnpackTree.seven (n j c : Nat) (hc : c < 256) (hj : j ≤ 4) (hn : n < 2 ^ (7 * j)) :
 Go.bits .or .i64 (n : Int) (wrap64 (wrap64 (Go.bits .and .u8 (c : Int) 127) * 2 ^ (7 * j))) = ((n + c % 128 * 2 ^ (7 * j) : Nat) : Int) ∧ n + c % 128 * 2 ^ (7 * j) < 2 ^ (7 * (j + 1)) := by
 obtain ⟨p, hp⟩ : ∃ p, p = 2 ^ (7 * j) := ⟨_, rfl⟩
 have hpl : p ≤ 268435456 := by rw [hp]; exact Nat.le_trans (Nat.pow_le_pow_right (show 0 < 2 by decide) (show 7 * j ≤ 28 by omega)) (by decide)
 have hpi : (2 : Int) ^ (7 * j) = (p : Int) := by rw [hp]; norm_cast
 have h1 : Go.bits .and .u8 (c : Int) 127 = (c : Int) % 128 := bits_mask .u8 8 (by decide) wraps_u8 7 (by decide) (c : Int) (by omega) (by omega)
 obtain ⟨s1, s2, s3, s4, s5, s6⟩ := impl_UnpackTree.small n p c hc (by rw [hp]; exact hn) hpl
 have hor : n ||| c % 128 * p = n + c % 128 * p := by
  have h3 := Nat.shiftLeft_add_eq_or_of_lt (b := n) (i := 7 * j) hn (c % 128)
  rw [Nat.shiftLeft_eq, ← hp] at h3
  rw [Nat.or_comm, ← h3, Nat.add_comm]
 refine ⟨?_, ?_⟩
 {
 rw [h1, s5, hpi, s6, s4, impl_UnpackTree.bits_or n _ s2 s1, hor, ← hp]}
 {
 rw [← hp, show 7 * (j + 1) = 7 * j + 7 from rfl, Nat.pow_add, ← hp]
 exact s3}
set_option maxHeartbeats 4000000 in
theorem impl_UnpackTree.num (s : ByteArray) (hs : s.size ≤ 1099511627776) (gk gi gs : Nat) (i : Nat) (b : Bool) (n' i' : Nat) (b' : Bool) (w : World) (hX : impl_UnpackTree.Bx w gk gi gs s i b) (hi : i ≤ s.size) (h : impl_UnpackTree.numL 6 s 0 0 i b = some (n', i', b')) :
 Calls Tryd.prog 20 #[.pointer (some ⟨gk, 0, none⟩), .pointer (some ⟨gi, 0, none⟩), .pointer (some ⟨gs, 0, none⟩)] w fun e w' =>
  e = .returned (.int .i64 n') ∧ impl_UnpackTree.Bx w' gk gi gs s i' b' ∧ impl_UnpackTree.Fr w w' gk gi ∧ i' ≤ s.size := by
 have HX := Aside0.mk hX
 have HA := Aside0.mk h
 clear hX h
 go_enter Tryd.func20, Tryd.ntmps20
 go_wp2
 go_loopw [4, 5] (fun v4 v5 W => ∃ (k n j ii : Nat), v4 = .int .i64 n ∧ v5 = .int .i64 ((7 * j : Nat) : Int) ∧ k + j = 6 ∧ n < 2 ^ (7 * j) ∧ ii ≤ s.size ∧ Aside0 (impl_UnpackTree.numL k s n j ii b = some (n', i', b')) ∧ Aside0 (impl_UnpackTree.Bx W gk gi gs s ii b) ∧ Aside0 (impl_UnpackTree.Fr w W gk gi)) (fun _ v5 _ => 100 - (intOf v5).toNat)
 case atStart => exact ⟨6, 0, 0, i, rfl, rfl, rfl, by decide, hi, HA, HX, ⟨impl_UnpackTree.Fr.refl _ _ _⟩⟩
 case round =>
  clear HA HX hi
  obtain ⟨k, n, j, ii, rfl, rfl, hkj, hn, hii, HA, HX, HF⟩ := hrel
  have hx_0 : wr.cell? ⟨gk, 0, none⟩ = some (.bool b) := by rw [cell_of_row wr gk 0 _ _ _ HX.out.1]; rfl
  have hx_1 : wr.cell? ⟨gi, 0, none⟩ = some (.int .i64 ii) := by rw [cell_of_row wr gi 0 _ _ _ HX.out.2.1]; rfl
  have hx_2 : wr.cell? ⟨gs, 0, none⟩ = some (.string s) := by rw [cell_of_row wr gs 0 _ _ _ HX.out.2.2]; rfl
  have hf_0 : wr.frozen? ⟨gk, 0, none⟩ = false := blk_frozen HX.out.1 0
  have hf_1 : wr.frozen? ⟨gi, 0, none⟩ = false := blk_frozen HX.out.2.1 0
  obtain ⟨k, rfl⟩ : ∃ k', k = k' + 1 := by
   rcases k with _ | k
   {
   have := HA.out; rw [impl_UnpackTree.numL] at this; cases this}
   {
   exact ⟨k, rfl⟩}
  have hA := HA.out
  rw [impl_UnpackTree.numL] at hA
  cases b with
  | false =>
   rw [if_neg (by decide)] at hA
   obtain ⟨rfl, rfl, rfl⟩ : n = n' ∧ ii = i' ∧ false = b' := by simpa using hA
   go_wp2
   go_ret
   first | exact ⟨rfl, HX.out, HF.out, hii⟩ | exact ⟨rfl, HX.out, HF.out⟩
  | true =>
   rw [if_pos rfl] at hA
   by_cases hend : s.size ≤ ii
   {
   rw [if_pos hend] at hA
   obtain ⟨rfl, rfl, rfl⟩ : 0 = n' ∧ ii = i' ∧ false = b' := by simpa using hA
   have c1 : decide ((s.size : Int) ≤ (ii : Int)) = true := by simpa using hend
   go_wp2
   go_ret
   first | exact ⟨rfl, HX.out.setk false, HF.out.trans (impl_UnpackTree.Fr.setk _ _ _ _ _), hii⟩ | exact ⟨rfl, HX.out.setk false, HF.out.trans (impl_UnpackTree.Fr.setk _ _ _ _ _)⟩}
   {
   rw [if_neg hend] at hA
   have c1 : decide ((s.size : Int) ≤ (ii : Int)) = false := by simpa using hend
   by_cases hsh : 28 < 7 * j
   {
   rw [if_pos hsh] at hA
   obtain ⟨rfl, rfl, rfl⟩ : 0 = n' ∧ ii = i' ∧ false = b' := by simpa using hA
   have c2 : decide ((28 : Int) < ((7 * j : Nat) : Int)) = true := by simp; omega
   go_wp2
   go_ret
   first | exact ⟨rfl, HX.out.setk false, HF.out.trans (impl_UnpackTree.Fr.setk _ _ _ _ _), hii⟩ | exact ⟨rfl, HX.out.setk false, HF.out.trans (impl_UnpackTree.Fr.setk _ _ _ _ _)⟩}
   {
   rw [if_neg hsh] at hA
   have c2 : decide ((28 : Int) < ((7 * j : Nat) : Int)) = false := by simp; omega
   have hlt : ii < s.size := by omega
   have hb : bt s (ii : Int) = ((s[ii]'hlt).toNat : Int) := by
    unfold bt
    rw [dif_pos (by simpa using hlt)]
    rfl
   rw [hb] at hA
   have hcb : (s[ii]'hlt).toNat < 256 := (s[ii]'hlt).toNat_lt
   have hv := impl_UnpackTree.seven n j (s[ii]'hlt).toNat hcb (by omega) hn
   have hm : (((s[ii]'hlt).toNat : Int) % 128).toNat = (s[ii]'hlt).toNat % 128 := by omega
   rw [hm] at hA
   have hii2 : ii + 1 ≤ s.size := hlt
   by_cases hlo : ((s[ii]'hlt).toNat : Int) < 128
   {
   rw [if_pos hlo] at hA
   obtain ⟨rfl, rfl, rfl⟩ : _ = n' ∧ ii + 1 = i' ∧ true = b' := by simpa using hA
   have c3 : decide (((s[ii]'hlt).toNat : Int) < 128) = true := decide_eq_true hlo
   go_wp2
   go_ret
   refine ⟨by first | rfl | (simp only [hv.1]; done) | (push_cast; rfl), ?_⟩
   first | exact ⟨HX.out.seti (ii + 1), HF.out.trans (impl_UnpackTree.Fr.seti _ _ _ _ _), hii2⟩ | exact ⟨HX.out.seti (ii + 1), HF.out.trans (impl_UnpackTree.Fr.seti _ _ _ _ _)⟩}
   {
   rw [if_neg hlo] at hA
   have c3 : decide (((s[ii]'hlt).toNat : Int) < 128) = false := decide_eq_false hlo
   go_wp2
   refine ⟨⟨k, n + (s[ii]'hlt).toNat % 128 * 2 ^ (7 * j), j + 1, ii + 1, by first | rfl | (rw [hv.1]) | (push_cast; rfl), by first | rfl | (congr 1) | (congr 1; omega), by omega, hv.2, hii2, ⟨hA⟩, ⟨HX.out.seti (ii + 1)⟩, ⟨HF.out.trans (impl_UnpackTree.Fr.seti _ _ _ _ _)⟩⟩, ?_⟩
   simp [intOf]
   omega}}}
theorem impl_UnpackTree.numL_le (s : ByteArray) : ∀ (k n j i : Nat) (b : Bool) (n' i' : Nat) (b' : Bool), i ≤ s.size → impl_UnpackTree.numL k s n j i b = some (n', i', b') → i' ≤ s.size
 | 0, _, _, _, _, _, _, _, _, h => by rw [impl_UnpackTree.numL] at h; cases h
 | k + 1, n, j, i, b, n', i', b', hi, h => by
  rw [impl_UnpackTree.numL] at h
  split at h
  {
  split at h
  {
  cases h; exact hi}
  {
  split at h
  {
  cases h; exact hi}
  {
  split at h
  {
  cases h; omega}
  {
  exact impl_UnpackTree.numL_le s k _ _ _ _ _ _ _ (by omega) h}}}}
  {
  cases h; exact hi}
theorem impl_UnpackTree.numL_lt (s : ByteArray) : ∀ (k n j i : Nat) (b : Bool) (n' i' : Nat) (b' : Bool), k + j = 6 → n < 2 ^ (7 * j) → impl_UnpackTree.numL k s n j i b = some (n', i', b') → n' < 2 ^ 42
 | 0, _, _, _, _, _, _, _, _, _, h => by rw [impl_UnpackTree.numL] at h; cases h
 | k + 1, n, j, i, b, n', i', b', hkj, hn, h => by
  rw [impl_UnpackTree.numL] at h
  have hle : 2 ^ (7 * j) ≤ 2 ^ 42 := Nat.pow_le_pow_right (by decide) (by omega)
  split at h
  {
  split at h
  {
  cases h; exact by decide}
  {
  split at h
  {
  cases h; exact by decide}
  {
  rename_i hsh
  have hb : (bt s i % 128).toNat ≤ 127 := by omega
  have hm : (bt s i % 128).toNat * 2 ^ (7 * j) ≤ 127 * 2 ^ (7 * j) := Nat.mul_le_mul_right _ hb
  have hp : 2 ^ (7 * (j + 1)) = 2 ^ (7 * j) * 128 := by rw [show 7 * (j + 1) = 7 * j + 7 from rfl, Nat.pow_add]
  have hle2 : 2 ^ (7 * (j + 1)) ≤ 2 ^ 42 := Nat.pow_le_pow_right (by decide) (by omega)
  have hnew : n + (bt s i % 128).toNat * 2 ^ (7 * j) < 2 ^ (7 * (j + 1)) := by
   rw [hp]
   generalize 2 ^ (7 * j) = p at hn hm ⊢
   generalize (bt s i % 128).toNat * p = m at hm ⊢
   omega
  split at h
  {
  cases h; exact Nat.lt_of_lt_of_le hnew hle2}
  {
  exact impl_UnpackTree.numL_lt s k _ _ _ _ _ _ _ (by omega) hnew h}}}}
  {
  cases h; exact Nat.lt_of_lt_of_le hn hle}
def impl_UnpackTree.textL (s : ByteArray) (i : Nat) (b : Bool) : Option (ByteArray × Nat × Bool) := (impl_UnpackTree.numL 6 s 0 0 i b).bind fun r => if r.2.2 = true then (if s.size < r.1 + r.2.1 then some (⟨#[]⟩, r.2.1, false) else some (s.extract r.2.1 (r.2.1 + r.1), r.2.1 + r.1, true)) else some (⟨#[]⟩, r.2.1, false)
def impl_UnpackTree.fnum (gk gi gs : Nat) : Value := .func (.func 20) #[] #[.pointer (some ⟨gk, 0, none⟩), .pointer (some ⟨gi, 0, none⟩), .pointer (some ⟨gs, 0, none⟩)]
set_option maxHeartbeats 4000000 in
theorem impl_UnpackTree.text (s : ByteArray) (hs : s.size ≤ 1099511627776) (gn gk gi gs : Nat) (i : Nat) (b : Bool) (t : ByteArray) (i' : Nat) (b' : Bool) (w : World) (hX : impl_UnpackTree.Bx w gk gi gs s i b) (hi : i ≤ s.size) (hN : w.cell? ⟨gn, 0, none⟩ = some (impl_UnpackTree.fnum gk gi gs)) (h : impl_UnpackTree.textL s i b = some (t, i', b')) :
 Calls Tryd.prog 21 #[.pointer (some ⟨gn, 0, none⟩), .pointer (some ⟨gk, 0, none⟩), .pointer (some ⟨gs, 0, none⟩), .pointer (some ⟨gi, 0, none⟩)] w fun e w' =>
  e = .returned (.string t) ∧ impl_UnpackTree.Bx w' gk gi gs s i' b' ∧ impl_UnpackTree.Fr w w' gk gi ∧ i' ≤ s.size := by
 unfold impl_UnpackTree.textL at h
 obtain ⟨⟨n, i1, b1⟩, hn, h⟩ := Option.bind_eq_some_iff.mp h
 have HX := Aside0.mk hX
 have HA := Aside0.mk hn
 simp only [] at h
 unfold impl_UnpackTree.fnum at hN
 clear hX hn
 cases b1 with
 | false =>
  rw [if_neg (by decide)] at h
  obtain ⟨rfl, rfl, rfl⟩ : _ = t ∧ i1 = i' ∧ false = b' := by simpa using h
  clear h
  go_enter Tryd.func21, Tryd.ntmps21
  go_wp2_with (go_at_call 20; refine (impl_UnpackTree.num s hs gk gi gs i b n i1 false _ HX.out hi HA.out).mono ?_; rintro e W ⟨rfl, hX1, hF1, hi1⟩; have hx_0 : W.cell? ⟨gk, 0, none⟩ = some (.bool false) := (by rw [cell_of_row W gk 0 _ _ _ hX1.1]; rfl); have hf_0 : W.frozen? ⟨gk, 0, none⟩ = false := blk_frozen hX1.1 0; have HX1 := Aside0.mk (And.intro hX1 (And.intro hF1 hi1)); clear hX1 hF1 hi1)
  go_ret
  refine ⟨rfl, ?_⟩
  first | exact ⟨HX1.out.1.setk false, HX1.out.2.1.trans (impl_UnpackTree.Fr.setk _ _ _ _ _), HX1.out.2.2⟩ | exact ⟨HX1.out.1.setk false, HX1.out.2.1.trans (impl_UnpackTree.Fr.setk _ _ _ _ _)⟩
 | true =>
  rw [if_pos rfl] at h
  have hi1 : i1 ≤ s.size := impl_UnpackTree.numL_le s 6 0 0 i b n i1 true hi HA.out
  by_cases hbig : s.size < n + i1
  {
  rw [if_pos hbig] at h
  obtain ⟨rfl, rfl, rfl⟩ : _ = t ∧ i1 = i' ∧ false = b' := by simpa using h
  clear h
  have hw : wrap64 ((s.size : Int) - (i1 : Int)) = (s.size : Int) - (i1 : Int) := by unfold wrap64; omega
  have c1 : decide ((s.size : Int) - (i1 : Int) < (n : Int)) = true := decide_eq_true (by omega)
  go_enter Tryd.func21, Tryd.ntmps21
  go_wp2_with (go_at_call 20; refine (impl_UnpackTree.num s hs gk gi gs i b n i1 true _ HX.out hi HA.out).mono ?_; rintro e W ⟨rfl, hX1, hF1, hi1⟩; have hx_0 : W.cell? ⟨gk, 0, none⟩ = some (.bool true) := (by rw [cell_of_row W gk 0 _ _ _ hX1.1]; rfl); have hx_1 : W.cell? ⟨gi, 0, none⟩ = some (.int .i64 i1) := (by rw [cell_of_row W gi 0 _ _ _ hX1.2.1]; rfl); have hx_2 : W.cell? ⟨gs, 0, none⟩ = some (.string s) := (by rw [cell_of_row W gs 0 _ _ _ hX1.2.2]; rfl); have hf_0 : W.frozen? ⟨gk, 0, none⟩ = false := blk_frozen hX1.1 0; have HX1 := Aside0.mk (And.intro hX1 (And.intro hF1 hi1)); clear hX1 hF1 hi1)
  go_ret
  refine ⟨rfl, ?_⟩
  first | exact ⟨HX1.out.1.setk false, HX1.out.2.1.trans (impl_UnpackTree.Fr.setk _ _ _ _ _), HX1.out.2.2⟩ | exact ⟨HX1.out.1.setk false, HX1.out.2.1.trans (impl_UnpackTree.Fr.setk _ _ _ _ _)⟩}
  {
  rw [if_neg hbig] at h
  obtain ⟨rfl, rfl, rfl⟩ : _ = t ∧ i1 + n = i' ∧ true = b' := by simpa using h
  clear h
  have hw : wrap64 ((s.size : Int) - (i1 : Int)) = (s.size : Int) - (i1 : Int) := by unfold wrap64; omega
  have c1 : decide ((s.size : Int) - (i1 : Int) < (n : Int)) = false := decide_eq_false (by omega)
  have hw2 : wrap64 ((i1 : Int) + (n : Int)) = ((i1 + n : Nat) : Int) := by unfold wrap64; omega
  have hw3 : wrap64 (((i1 + n : Nat) : Int) - (n : Int)) = (i1 : Int) := by unfold wrap64; omega
  have hw4 : wrap64 ((i1 : Int) + (n : Int) - (n : Int)) = (i1 : Int) := by unfold wrap64; omega
  have hle : i1 + n ≤ s.size := by omega
  have hle2 : (i1 : Int) + (n : Int) ≤ (s.size : Int) := by omega
  have hle3 : (i1 : Int) ≤ (i1 : Int) + (n : Int) := by omega
  have hle4 : (0 : Int) ≤ (i1 : Int) + (n : Int) := by omega
  have htn : ((i1 : Int) + (n : Int)).toNat = i1 + n := by omega
  go_enter Tryd.func21, Tryd.ntmps21
  go_wp2_with (go_at_call 20; refine (impl_UnpackTree.num s hs gk gi gs i b n i1 true _ HX.out hi HA.out).mono ?_; rintro e W ⟨rfl, hX1, hF1, hi1⟩; have hx_0 : W.cell? ⟨gk, 0, none⟩ = some (.bool true) := (by rw [cell_of_row W gk 0 _ _ _ hX1.1]; rfl); have hx_1 : W.cell? ⟨gi, 0, none⟩ = some (.int .i64 i1) := (by rw [cell_of_row W gi 0 _ _ _ hX1.2.1]; rfl); have hx_2 : W.cell? ⟨gs, 0, none⟩ = some (.string s) := (by rw [cell_of_row W gs 0 _ _ _ hX1.2.2]; rfl); have hf_1 : W.frozen? ⟨gi, 0, none⟩ = false := blk_frozen hX1.2.1 0; have hne1 : gs ≠ gi := blk_ne hX1.2.2 hX1.2.1 (by decide); have HX1 := Aside0.mk (And.intro hX1 (And.intro hF1 hi1)); clear hX1 hF1 hi1)
  go_ret
  refine ⟨rfl, ?_⟩
  first | exact ⟨HX1.out.1.seti (i1 + n), HX1.out.2.1.trans (impl_UnpackTree.Fr.seti _ _ _ _ _), hle⟩ | exact ⟨HX1.out.1.seti (i1 + n), HX1.out.2.1.trans (impl_UnpackTree.Fr.seti _ _ _ _ _)⟩}
theorem impl_UnpackTree.Bx.alloc {w : World} {gk gi gs : Nat} {s : ByteArray} {i : Nat} {b : Bool} (h : impl_UnpackTree.Bx w gk gi gs s i b) (o : Obj) : impl_UnpackTree.Bx (w.alloc o) gk gi gs s i b := by
 exact ⟨blk_grown h.1 (World.grownBy_alloc w o none) (by simp), blk_grown h.2.1 (World.grownBy_alloc w o none) (by simp), blk_grown h.2.2 (World.grownBy_alloc w o none) (by simp)⟩
theorem impl_UnpackTree.Bx.far {w : World} {gk gi gs : Nat} {s : ByteArray} {i : Nat} {b : Bool} (h : impl_UnpackTree.Bx w gk gi gs s i b) {g : Nat} (hk : gk ≠ g) (hi : gi ≠ g) (hs : gs ≠ g) (j : Nat) (v : Value) : impl_UnpackTree.Bx (w.setCell ⟨g, j, none⟩ v) gk gi gs s i b :=
 ⟨(Below.heap_setCell w ⟨g, j, none⟩ v gk hk).trans h.1, (Below.heap_setCell w ⟨g, j, none⟩ v gi hi).trans h.2.1, (Below.heap_setCell w ⟨g, j, none⟩ v gs hs).trans h.2.2⟩
theorem impl_UnpackTree.Bx.grown {w w1 : World} {gk gi gs : Nat} {s : ByteArray} {i : Nat} {b : Bool} (h : impl_UnpackTree.Bx w gk gi gs s i b) {row : Option Nat} (hg : w.grownBy w1 row) (hk : some gk ≠ row) (hi : some gi ≠ row) (hs : some gs ≠ row) : impl_UnpackTree.Bx w1 gk gi gs s i b :=
 ⟨blk_grown h.1 hg hk, blk_grown h.2.1 hg hi, blk_grown h.2.2 hg hs⟩
theorem impl_UnpackTree.Fr.new {w w' : World} {gk gi : Nat} (h : impl_UnpackTree.Fr w w' gk gi) {g : Nat} (hg : w.heap.size ≤ g) (j : Nat) (v : Value) : impl_UnpackTree.Fr w (w'.setCell ⟨g, j, none⟩ v) gk gi :=
 ⟨by simp [World.setCell]; exact h.1, h.2.1, fun k hk h1 h2 => (Below.heap_setCell w' ⟨g, j, none⟩ v k (by show k ≠ g; omega)).trans (h.2.2 k hk h1 h2)⟩
theorem impl_UnpackTree.Fr.blk {w w' : World} {gk gi g : Nat} {x : Obj} (h : impl_UnpackTree.Fr w w' gk gi) (hg : w.heap[g]? = some x) (h1 : g ≠ gk) (h2 : g ≠ gi) : w'.heap[g]? = some x := (h.2.2 g (blk_lt hg) h1 h2).trans hg
theorem impl_UnpackTree.Fr.below {w0 w w' : World} {gk gi : Nat} (h : impl_UnpackTree.Fr w w' gk gi) (hb : Below w0.heap.size w0 w) (hk : w0.heap.size ≤ gk) (hi : w0.heap.size ≤ gi) : Below w0.heap.size w0 w' :=
 hb.trans ⟨h.2.1.1, h.2.1.2.1, h.2.1.2.2, h.1, fun k hk2 => by
  have := hb.size
  exact h.2.2 k (by omega) (by omega) (by omega)⟩
theorem impl_UnpackTree.Bx.below {w w1 : World} {gk gi gs : Nat} {s : ByteArray} {i : Nat} {b : Bool} (h : impl_UnpackTree.Bx w gk gi gs s i b) (hb : Below w.heap.size w w1) : impl_UnpackTree.Bx w1 gk gi gs s i b :=
 ⟨blk_below h.1 hb, blk_below h.2.1 hb, blk_below h.2.2 hb⟩
structure impl_UnpackTree.St (w W : World) (gb : Nat) (s : ByteArray) (i : Nat) (b : Bool) (v : Value) (t : List S29) (cs : Array Value) : Prop where
 X : impl_UnpackTree.Bx W (w.heap.size + 1 + 1) (w.heap.size + 1) w.heap.size s i b
 N : W.heap[(w.heap.size + 1 + 1 + 1)]? = some (.cells #[impl_UnpackTree.fnum (w.heap.size + 1 + 1) (w.heap.size + 1) w.heap.size] 43 (0, 0))
 R : Kd.R k29 29 W w.heap.size (fun q => (q ≠ (w.heap.size + 1 + 1) ∧ q ≠ (w.heap.size + 1) ∧ q ≠ w.heap.size ∧ q ≠ (w.heap.size + 1 + 1 + 1)) ∧ q ≠ gb) v t
 B : Below w.heap.size w W
 K : W.heap[gb]? = some (.cells cs 29 (0, 0))
 NE : (w.heap.size + 1 + 1) ≠ gb ∧ (w.heap.size + 1) ≠ gb ∧ w.heap.size ≠ gb ∧ (w.heap.size + 1 + 1 + 1) ≠ gb ∧ w.heap.size ≤ gb
theorem impl_UnpackTree.St.put {w W : World} {gb : Nat} {s : ByteArray} {i : Nat} {b : Bool} {v : Value} {t : List S29} {cs : Array Value} (h : impl_UnpackTree.St w W gb s i b v t cs) (j : Nat) (u : Value) (cs' : Array Value) (e : cs.setIfInBounds j u = cs') :
 impl_UnpackTree.St w (W.setCell ⟨gb, j, none⟩ u) gb s i b v t cs' :=
 ⟨h.X.far h.NE.1 h.NE.2.1 h.NE.2.2.1 j u, (Below.heap_setCell W ⟨gb, j, none⟩ u _ h.NE.2.2.2.1).trans h.N, Kd.R_far h.R (fun _ hk => hk.2) u, below_set h.B h.NE.2.2.2.2, blk_put h.K j u e, h.NE⟩
theorem impl_UnpackTree.St.call {w W W' : World} {gb : Nat} {s : ByteArray} {i i' : Nat} {b b' : Bool} {v : Value} {t : List S29} {cs : Array Value} (h : impl_UnpackTree.St w W gb s i b v t cs) (hF : impl_UnpackTree.Fr W W' (w.heap.size + 1 + 1) (w.heap.size + 1)) (hX : impl_UnpackTree.Bx W' (w.heap.size + 1 + 1) (w.heap.size + 1) w.heap.size s i' b') :
 impl_UnpackTree.St w W' gb s i' b' v t cs :=
 ⟨hX, hF.blk h.N (by omega) (by omega), Kd.R_step h.R (fun k hk hlt => hF.2.2 k hlt hk.1.1 hk.1.2.1), hF.below h.B (by omega) (by omega), hF.blk h.K (fun e => h.NE.1 e.symm) (fun e => h.NE.2.1 e.symm), h.NE⟩
theorem impl_UnpackTree.St.cells {w W : World} {gb : Nat} {s : ByteArray} {i : Nat} {b : Bool} {v : Value} {t : List S29} {c0 c1 c2 c3 : Value} (h : impl_UnpackTree.St w W gb s i b v t #[c0, c1, c2, c3]) :
 W.cell? ⟨gb, 0, none⟩ = some c0 ∧ W.cell? ⟨gb, 1, none⟩ = some c1 ∧ W.cell? ⟨gb, 2, none⟩ = some c2 ∧ W.cell? ⟨gb, 3, none⟩ = some c3 :=
 ⟨(blk_cell h.K 0).trans rfl, (blk_cell h.K 1).trans rfl, (blk_cell h.K 2).trans rfl, (blk_cell h.K 3).trans rfl⟩
theorem impl_UnpackTree.St.start {w W w1 : World} {gb : Nat} {s : ByteArray} {i i' : Nat} {b : Bool} {v : Value} {t : List S29} {x : Int} (hx : x = (i' : Int)) (hX : impl_UnpackTree.Bx W (w.heap.size + 1 + 1) (w.heap.size + 1) w.heap.size s i b) (hN : W.heap[(w.heap.size + 1 + 1 + 1)]? = some (.cells #[impl_UnpackTree.fnum (w.heap.size + 1 + 1) (w.heap.size + 1) w.heap.size] 43 (0, 0)))
 (hR : Kd.R k29 29 W w.heap.size (fun q => q ≠ (w.heap.size + 1 + 1) ∧ q ≠ (w.heap.size + 1) ∧ q ≠ w.heap.size ∧ q ≠ (w.heap.size + 1 + 1 + 1)) v t) (hB : Below w.heap.size w W) (hg : gb = (W.setCell ⟨(w.heap.size + 1), 0, none⟩ (.int .i64 x)).heap.size) (hbox : w1.heap[gb]? = some (.cells #[.string (⟨#[]⟩ : ByteArray), .int .i64 0, .string (⟨#[]⟩ : ByteArray), .bool false] 29 (0, 0)))
 (hb : Below (W.setCell ⟨(w.heap.size + 1), 0, none⟩ (.int .i64 x)).heap.size (W.setCell ⟨(w.heap.size + 1), 0, none⟩ (.int .i64 x)) w1) : impl_UnpackTree.St w w1 gb s i' b v t #[.string (⟨#[]⟩ : ByteArray), .int .i64 0, .string (⟨#[]⟩ : ByteArray), .bool false] := by
 subst hx
 have hX2 := hX.seti i'
 have hN2 : (W.setCell ⟨(w.heap.size + 1), 0, none⟩ (.int .i64 (i' : Int))).heap[(w.heap.size + 1 + 1 + 1)]? = _ := (Below.heap_setCell W ⟨(w.heap.size + 1), 0, none⟩ (.int .i64 (i' : Int)) (w.heap.size + 1 + 1 + 1) (by show (w.heap.size + 1 + 1 + 1) ≠ (w.heap.size + 1); omega)).trans hN
 have hs : w.heap.size ≤ (W.setCell ⟨(w.heap.size + 1), 0, none⟩ (.int .i64 (i' : Int))).heap.size := by have := blk_lt hX2.2.2; omega
 have hB2 : Below w.heap.size w (W.setCell ⟨(w.heap.size + 1), 0, none⟩ (.int .i64 (i' : Int))) := below_set hB (by omega)
 exact ⟨hX2.below hb, blk_below hN2 hb, Kd.R_below (Kd.R_elderB (Kd.R_far hR (fun _ hk => hk.2.1) _) gb (by omega)) hb, below_step hB2 hb, hbox, ⟨by have := blk_lt hX2.1; omega, by have := blk_lt hX2.2.1; omega, by have := blk_lt hX2.2.2; omega, by have := blk_lt hN2; omega, by omega⟩⟩
theorem impl_UnpackTree.St.text {w W : World} {gb : Nat} {s : ByteArray} {i i' : Nat} {b b' : Bool} {v : Value} {t : List S29} {c0 c1 c2 c3 : Value} {p : ByteArray} (hs : s.size ≤ 1099511627776) (h : impl_UnpackTree.St w W gb s i b v t #[c0, c1, c2, c3]) (hi : i ≤ s.size) (ht : impl_UnpackTree.textL s i b = some (p, i', b')) :
 Calls Tryd.prog 21 #[.pointer (some ⟨(w.heap.size + 1 + 1 + 1), 0, none⟩), .pointer (some ⟨(w.heap.size + 1 + 1), 0, none⟩), .pointer (some ⟨w.heap.size, 0, none⟩), .pointer (some ⟨(w.heap.size + 1), 0, none⟩)] W fun e W' => e = .returned (.string p) ∧ impl_UnpackTree.St w W' gb s i' b' v t #[c0, c1, c2, c3] ∧ i' ≤ s.size := by
 refine (impl_UnpackTree.text s hs (w.heap.size + 1 + 1 + 1) (w.heap.size + 1 + 1) (w.heap.size + 1) w.heap.size i b p i' b' W h.X hi (by rw [cell_of_row W _ 0 _ _ _ h.N]; rfl) ht).mono ?_
 rintro e W' ⟨he, hX, hF, hi'⟩
 exact ⟨he, h.call hF hX, hi'⟩
theorem impl_UnpackTree.St.more {w W W' : World} {gb : Nat} {s : ByteArray} {i : Nat} {b : Bool} {v v' : Value} {t t' : List S29} {cs : Array Value} (h : impl_UnpackTree.St w W gb s i b v t cs) (hR : Kd.R k29 29 W' w.heap.size (fun q => (q ≠ (w.heap.size + 1 + 1) ∧ q ≠ (w.heap.size + 1) ∧ q ≠ w.heap.size ∧ q ≠ (w.heap.size + 1 + 1 + 1)) ∧ q ≠ gb) v' t') (hB : Below w.heap.size w W') (hg : W.grownBy W' v.ownBlock) :
 impl_UnpackTree.Bx W' (w.heap.size + 1 + 1) (w.heap.size + 1) w.heap.size s i b ∧ W'.heap[(w.heap.size + 1 + 1 + 1)]? = some (.cells #[impl_UnpackTree.fnum (w.heap.size + 1 + 1) (w.heap.size + 1) w.heap.size] 43 (0, 0)) ∧ Kd.R k29 29 W' w.heap.size (fun q => q ≠ (w.heap.size + 1 + 1) ∧ q ≠ (w.heap.size + 1) ∧ q ≠ w.heap.size ∧ q ≠ (w.heap.size + 1 + 1 + 1)) v' t' ∧ Below w.heap.size w W' :=
 ⟨h.X.grown hg (Kd.R_away h.R (fun _ hk => hk.1.1)) (Kd.R_away h.R (fun _ hk => hk.1.2.1)) (Kd.R_away h.R (fun _ hk => hk.1.2.2.1)), blk_grown h.N hg (Kd.R_away h.R (fun _ hk => hk.1.2.2.2)), Kd.R_mono hR (fun _ hk => hk.1), hB⟩
theorem impl_UnpackTree.St.fresh {w W : World} {gb : Nat} {s : ByteArray} {i : Nat} {b : Bool} {v : Value} {t : List S29} {cs : Array Value} (h : impl_UnpackTree.St w W gb s i b v t cs) : ∀ k, W.heap.size ≤ k → (k ≠ (w.heap.size + 1 + 1) ∧ k ≠ (w.heap.size + 1) ∧ k ≠ w.heap.size ∧ k ≠ (w.heap.size + 1 + 1 + 1)) ∧ k ≠ gb := fun k hk => by
 have h1 := blk_lt h.X.1
 have h2 := blk_lt h.X.2.1
 have h3 := blk_lt h.X.2.2
 have h4 := blk_lt h.N
 have h5 := blk_lt h.K
 omega
theorem impl_UnpackTree.w1 (i : Nat) (h : i ≤ 4398046511104) : wrap64 ((i : Int) + 1) = ((i + 1 : Nat) : Int) := by unfold wrap64; omega
theorem impl_UnpackTree.wm (n : Nat) (h : n ≤ 4398046511104) (h1 : 1 ≤ n) : wrap64 ((n : Int) - 1) = ((n - 1 : Nat) : Int) := by unfold wrap64; omega
theorem impl_UnpackTree.kind (c : Nat) (h : c < 256) : wrap64 (Go.bits .and .u8 (c : Int) 15) = (c : Int) % 16 := by
 have h1 : Go.bits .and .u8 (c : Int) 15 = (c : Int) % 16 := bits_mask .u8 8 (by decide) wraps_u8 4 (by decide) (c : Int) (by omega) (by omega)
 rw [h1]
 unfold wrap64
 omega
def impl_UnpackTree.ent (s : ByteArray) (i : Nat) (p d : ByteArray) : S29 := ⟨p, bt s i % 16, d, (bt s i / 16 == 1)⟩
def impl_UnpackTree.unpL : Nat → ByteArray → Nat → Bool → List S29 → Nat → Option (Option (List S29 × Bool))
 | 0, _, _, _, _, _ => none
 | k + 1, s, i, b, t, n => if b = true then (if 0 < n then (if s.size ≤ i then some none else if 500 < t.length then some none else
  (impl_UnpackTree.textL s (i + 1) b).bind fun p => (impl_UnpackTree.textL s p.2.1 p.2.2).bind fun d => impl_UnpackTree.unpL k s d.2.1 d.2.2 (t ++ [impl_UnpackTree.ent s i p.1 d.1]) (n - 1)) else some (some (t, b))) else some (some (t, b))
theorem impl_UnpackTree.four (w : World) (a b c d : Obj) : ((((w.alloc a).alloc b).alloc c).alloc d).heap[w.heap.size]? = some a ∧ ((((w.alloc a).alloc b).alloc c).alloc d).heap[w.heap.size + 1]? = some b ∧ ((((w.alloc a).alloc b).alloc c).alloc d).heap[w.heap.size + 1 + 1]? = some c ∧ ((((w.alloc a).alloc b).alloc c).alloc d).heap[w.heap.size + 1 + 1 + 1]? = some d := by
 have e : ∀ q : Nat, ((((w.alloc a).alloc b).alloc c).alloc d).heap[q]? = ((((w.heap.push a).push b).push c).push d)[q]? := fun _ => rfl
 simp only [e, Array.getElem?_push, Array.size_push]
 refine ⟨?_, ?_, ?_, ?_⟩
 {
 rw [if_neg (by omega), if_neg (by omega), if_neg (by omega), if_pos trivial]}
 {
 rw [if_neg (by omega), if_neg (by omega), if_pos trivial]}
 {
 rw [if_neg (by omega), if_pos trivial]}
 {
 rw [if_pos trivial]}
def impl_UnpackTree.f (k : Nat) (l0 : List Int) : Option (List S29 × Bool) := if l0.length ≤ 1099511627776 then (if Lib.hasPrefix (strOfNums l0).data.toList [76, 65, 82, 49] = true then
 (impl_UnpackTree.numL 6 (strOfNums l0) 0 0 4 true).bind fun p => (impl_UnpackTree.unpL 600 (strOfNums l0) p.2.1 p.2.2 [] p.1).bind fun o => match o with
  | none => some ([], false)
  | some q => if q.2 = true then (impl_TreeOk.f k q.1).bind fun ok => if ok = true then (impl_PackTree.f k q.1).bind fun b => if (strOfNums b).toList = (strOfNums l0).toList then some (q.1, true) else some ([], false) else some ([], false) else some ([], false)
 else some ([], false)) else none
set_option maxHeartbeats 4000000 in
theorem impl_UnpackTree.calls (k : Nat) (A0 : Option Addr) (c0 : Nat) (l0 : List Int) (r1 : List S29) (r2 : Bool) (w : World) (hE : EnvW w) (hr0 : Kd.C (Kd.int .u8) w A0 l0.length l0) (hc0 : l0.length ≤ c0) (h : impl_UnpackTree.f k l0 = some (r1, r2)) :
 Calls Tryd.prog 5 #[.slice A0 l0.length c0] w fun e w' => ∃ v0_ : Value, e = .returned (.tuple #[v0_, .bool r2]) ∧ Kd.R k29 29 w' w.heap.size (fun _ => True) v0_ r1 ∧ Below w.heap.size w w' := by
 unfold impl_UnpackTree.f at h
 by_cases hsz : l0.length ≤ 1099511627776
 case neg => rw [if_neg hsz] at h; cases h
 rw [if_pos hsz] at h
 have hcv := Kd.C_string (P := Tryd.prog) (A := A0) (c := c0) Tryd.underlying22 Tryd.underlying5 Tryd.underlying9 hr0
 obtain ⟨s, hs⟩ : ∃ s, s = strOfNums l0 := ⟨_, rfl⟩
 have hss : s.size ≤ 1099511627776 := by rw [hs]; simp [strOfNums, ByteArray.size]; exact hsz
 rw [← hs] at h hcv
 have HEE := Aside0.mk hE
 clear hs hr0 hE hsz
 cases hp : Lib.hasPrefix s.data.toList [76, 65, 82, 49] with
 | false =>
  rw [hp, if_neg (by decide)] at h
  obtain ⟨rfl, rfl⟩ := Prod.mk.inj (Option.some.inj h)
  clear h
  go_enter Tryd.func5, Tryd.ntmps5
  go_wp2_with (go_at_call 19; refine (Tryd.strings_HasPrefix _ _ _).mono ?_; rintro e w8 ⟨rfl, rfl⟩)
  exact bodyPost_ret (v := .tuple #[.slice none 0 0, .bool false]) (by simp [results, Tryd.results5, go_sem]) rfl ⟨_, rfl, Kd.R_nil _ _ _ _ _, below_alloc (Below.refl _ _) _⟩
 | true =>
  rw [hp, if_pos rfl] at h
  obtain ⟨⟨n0, i0, b0⟩, hn0, h⟩ := Option.bind_eq_some_iff.mp h
  obtain ⟨o, ho, h⟩ := Option.bind_eq_some_iff.mp h
  have H0 := Aside0.mk hn0
  have HO := Aside0.mk ho
  have HH := Aside0.mk h
  have hst : ∀ (a : Addr) (fn : Fn) (first captured : Array Value) (m : Mode) (W : World), (store a (.func fn first captured) m).run Tryd.prog W = stored Tryd.prog W a (.func fn first captured) m := fun a fn first captured m W => run_store Tryd.prog W a _ m rfl
  have HX0 := Aside0.mk (show impl_UnpackTree.Bx ((((w.alloc (.cells #[.string s] 9)).alloc (.cells #[.int .i64 4] 3)).alloc (.cells #[.bool true] 4)).alloc (.cells #[impl_UnpackTree.fnum (w.heap.size + 1 + 1) (w.heap.size + 1) w.heap.size] 43)) (w.heap.size + 1 + 1) (w.heap.size + 1) w.heap.size s 4 true from ⟨(impl_UnpackTree.four w _ _ _ _).2.2.1, (impl_UnpackTree.four w _ _ _ _).2.1, (impl_UnpackTree.four w _ _ _ _).1⟩)
  have HN0 := Aside0.mk (show ((((w.alloc (.cells #[.string s] 9)).alloc (.cells #[.int .i64 4] 3)).alloc (.cells #[.bool true] 4)).alloc (.cells #[impl_UnpackTree.fnum (w.heap.size + 1 + 1) (w.heap.size + 1) w.heap.size] 43)).heap[w.heap.size + 1 + 1 + 1]? = some (.cells #[impl_UnpackTree.fnum (w.heap.size + 1 + 1) (w.heap.size + 1) w.heap.size] 43 (0, 0)) from (impl_UnpackTree.four w _ _ _ _).2.2.2)
  have HB0 := Aside0.mk (show Below w.heap.size w ((((w.alloc (.cells #[.string s] 9)).alloc (.cells #[.int .i64 4] 3)).alloc (.cells #[.bool true] 4)).alloc (.cells #[impl_UnpackTree.fnum (w.heap.size + 1 + 1) (w.heap.size + 1) w.heap.size] 43)) from below_alloc (below_alloc (below_alloc (below_alloc (Below.refl _ _) _) _) _) _)
  have h4 : 4 ≤ s.size := by
   unfold Lib.hasPrefix at hp
   rw [List.isPrefixOf_iff_prefix] at hp
   have := hp.length_le
   rw [data_length] at this
   exact this
  have hn0lt : n0 < 4398046511104 := impl_UnpackTree.numL_lt s 6 0 0 4 true n0 i0 b0 rfl (by decide) H0.out
  clear hn0 ho h
  go_enter Tryd.func5, Tryd.ntmps5
  go_wp2_with (first | (go_at_call 19; refine (Tryd.strings_HasPrefix _ _ _).mono ?_; rintro e w8 ⟨rfl, rfl⟩) | (go_at_call 20; refine (impl_UnpackTree.num s hss (w.heap.size + 1 + 1) (w.heap.size + 1) w.heap.size 4 true n0 i0 b0 _ HX0.out h4 H0.out).mono ?_; rintro e W1 ⟨rfl, hX1, hF1, hi1⟩; have HX1 := Aside0.mk hX1; have HB1 := Aside0.mk (hF1.below HB0.out (show w.heap.size ≤ w.heap.size + 1 + 1 by omega) (show w.heap.size ≤ w.heap.size + 1 by omega)); have HN1 := Aside0.mk (hF1.blk HN0.out (by omega) (by omega)); clear hX1 hF1 HX0 HN0 HB0))
  go_loopw [9, 10] (fun v9 v10 W => ∃ (kq i n : Nat) (b : Bool) (t : List S29), v10 = .int .i64 n ∧ i ≤ s.size ∧ n < 4398046511104 ∧ Aside0 (impl_UnpackTree.unpL kq s i b t n = some o) ∧ Aside0 (impl_UnpackTree.Bx W (w.heap.size + 1 + 1) (w.heap.size + 1) w.heap.size s i b) ∧ Aside0 (W.heap[w.heap.size + 1 + 1 + 1]? = some (.cells #[impl_UnpackTree.fnum (w.heap.size + 1 + 1) (w.heap.size + 1) w.heap.size] 43 (0, 0))) ∧ Aside0 (Kd.R k29 29 W w.heap.size (fun q => q ≠ (w.heap.size + 1 + 1) ∧ q ≠ (w.heap.size + 1) ∧ q ≠ w.heap.size ∧ q ≠ (w.heap.size + 1 + 1 + 1)) v9 t) ∧ Aside0 (Below w.heap.size w W)) (fun _ v10 _ => (intOf v10).toNat)
  case atStart => exact ⟨600, i0, n0, b0, [], rfl, hi1, hn0lt, HO, HX1, HN1, ⟨Kd.R_nil _ _ _ _ _⟩, HB1⟩
  case round =>
   clear HX1 HN1 HB1 HO
   obtain ⟨kq, i, n, b, t, rfl, hi, hnlt, HA, HX, HN, HR, HB⟩ := hrel
   obtain ⟨kq, rfl⟩ : ∃ k', kq = k' + 1 := by
    rcases kq with _ | kq
    {
    have := HA.out; rw [impl_UnpackTree.unpL] at this; cases this}
    {
    exact ⟨kq, rfl⟩}
   have hA := HA.out
   rw [impl_UnpackTree.unpL] at hA
   clear HA
   have hx_0 : wr.cell? ⟨w.heap.size + 1 + 1, 0, none⟩ = some (.bool b) := by rw [cell_of_row wr _ 0 _ _ _ HX.out.1]; rfl
   have hx_1 : wr.cell? ⟨w.heap.size + 1, 0, none⟩ = some (.int .i64 i) := by rw [cell_of_row wr _ 0 _ _ _ HX.out.2.1]; rfl
   have hx_2 : wr.cell? ⟨w.heap.size, 0, none⟩ = some (.string s) := by rw [cell_of_row wr _ 0 _ _ _ HX.out.2.2]; rfl
   have hf_1 : wr.frozen? ⟨w.heap.size + 1, 0, none⟩ = false := blk_frozen HX.out.2.1 0
   have hne1 : w.heap.size ≠ w.heap.size + 1 := by omega
   have hne2 : w.heap.size + 1 + 1 ≠ w.heap.size + 1 := by omega
   obtain ⟨Ar, cr, hvr, hcr, hCr⟩ := Kd.R_reads HR.out
   subst hvr
   have hlr := hCr.2.1
   clear hcr hCr
   cases b with
   | false =>
    rw [if_neg (by decide)] at hA
    obtain rfl := Option.some.inj hA
    obtain ⟨rfl, rfl⟩ : ([] : List S29) = r1 ∧ false = r2 := by have := HH.out; simpa using this
    clear hA HH
    go_wp2
    go_quiet (fail)
    go_wp2
    exact bodyPost_ret (v := .tuple #[.slice none 0 0, .bool false]) (by simp [results, Tryd.results5, go_sem]) rfl ⟨_, rfl, Kd.R_nil _ _ _ _ _, bw_ HB⟩
   | true =>
    rw [if_pos rfl] at hA
    by_cases hn : 0 < n
    {
    rw [if_pos hn] at hA
    have c1 : decide ((0 : Int) < (n : Int)) = true := decide_eq_true (by omega)
    by_cases hend : s.size ≤ i
    {
    rw [if_pos hend] at hA
    obtain rfl := Option.some.inj hA
    obtain ⟨rfl, rfl⟩ : ([] : List S29) = r1 ∧ false = r2 := by have := HH.out; simpa using this
    have c2 : decide ((s.size : Int) ≤ (i : Int)) = true := decide_eq_true (by omega)
    clear hA HH
    go_wp2
    exact bodyPost_ret (v := .tuple #[.slice none 0 0, .bool false]) (by simp [results, Tryd.results5, go_sem]) rfl ⟨_, rfl, Kd.R_nil _ _ _ _ _, bw_ HB⟩}
    {
    rw [if_neg hend] at hA
    have c2 : decide ((s.size : Int) ≤ (i : Int)) = false := decide_eq_false (by omega)
    by_cases hlong : 500 < t.length
    {
    rw [if_pos hlong] at hA
    obtain rfl := Option.some.inj hA
    obtain ⟨rfl, rfl⟩ : ([] : List S29) = r1 ∧ false = r2 := by have := HH.out; simpa using this
    have c3 : decide ((500 : Int) < (t.length : Int)) = true := decide_eq_true (by omega)
    clear hA HH
    go_wp2
    exact bodyPost_ret (v := .tuple #[.slice none 0 0, .bool false]) (by simp [results, Tryd.results5, go_sem]) rfl ⟨_, rfl, Kd.R_nil _ _ _ _ _, bw_ HB⟩}
    {
    rw [if_neg hlong] at hA
    have c3 : decide ((500 : Int) < (t.length : Int)) = false := decide_eq_false (by omega)
    obtain ⟨⟨p, i1, b1⟩, hp1, hA⟩ := Option.bind_eq_some_iff.mp hA
    obtain ⟨⟨d, i2, b2⟩, hp2, hA⟩ := Option.bind_eq_some_iff.mp hA
    have HP1 := Aside0.mk hp1
    have HP2 := Aside0.mk hp2
    have HA2 := Aside0.mk hA
    clear hp1 hp2 hA
    have hilt : i < s.size := by omega
    have hb : bt s (i : Int) = ((s[i]'hilt).toNat : Int) := by
     unfold bt
     rw [dif_pos (by simpa using hilt)]
     rfl
    have hi1 : i + 1 ≤ s.size := by omega
    have hw1 := impl_UnpackTree.w1 i (by omega)
    have HW := Aside0.mk (impl_UnpackTree.wm n (by omega) hn)
    have HKD := Aside0.mk (And.intro hb (impl_UnpackTree.kind (s[i]'hilt).toNat (s[i]'hilt).toNat_lt))
    clear hb
    go_upto_region 16 with (first | ((with_reducible refine gate_dst (N := 12) rfl ?_); refine bE_ 12 #[.string (⟨#[]⟩ : ByteArray), .int .i64 0, .string (⟨#[]⟩ : ByteArray), .bool false] 29 ?_; intro gb hg w20 hbox hb20; have HS := Aside0.mk (impl_UnpackTree.St.start (i' := i + 1) (by first | rfl | (push_cast; rfl)) HX.out HN.out HR.out HB.out hg hbox hb20); clear hg hbox hb20 HX HN HR HB hx_0 hx_1 hx_2 hf_1; obtain ⟨hcz20_0, hcz20_1, hcz20_2, hcz20_3⟩ := HS.out.cells; have hfz20_0 := blk_frozen HS.out.K 0; have hfz20_1 := blk_frozen HS.out.K 1; have hfz20_2 := blk_frozen HS.out.K 2; have hfz20_3 := blk_frozen HS.out.K 3))
    go_upto_region 18 with (first | (go_at_call 21; have h1_ := HP1; clear HP1; refine (impl_UnpackTree.St.text (c0 := .string (⟨#[]⟩ : ByteArray)) (c1 := .int .i64 (wrap64 (Go.bits .and .u8 ((s[i]'hilt).toNat : Int) 15))) (c2 := .string (⟨#[]⟩ : ByteArray)) (c3 := .bool (((s[i]'hilt).toNat : Int) / 16 == 1)) hss ((((HS.out.put 0 _ _ rfl).put 1 _ _ rfl).put 2 _ _ rfl).put 3 _ _ rfl) hi1 h1_.out).mono ?_; rintro e W8 ⟨rfl, hS8, hi8⟩; have HS8 := Aside0.mk (And.intro hS8 hi8); clear HS hS8 hi8 h1_ hcz20_0 hcz20_1 hcz20_2 hcz20_3 hfz20_0 hfz20_1 hfz20_2 hfz20_3; obtain ⟨hcz21_0, hcz21_1, hcz21_2, hcz21_3⟩ := HS8.out.1.cells; have hfz21_0 := blk_frozen HS8.out.1.K 0; have hfz21_1 := blk_frozen HS8.out.1.K 1; have hfz21_2 := blk_frozen HS8.out.1.K 2; have hfz21_3 := blk_frozen HS8.out.1.K 3) | (go_at_call 21; have h1_ := HP2; clear HP2; refine (impl_UnpackTree.St.text (c0 := .string p) (c1 := .int .i64 (wrap64 (Go.bits .and .u8 ((s[i]'hilt).toNat : Int) 15))) (c2 := .string (⟨#[]⟩ : ByteArray)) (c3 := .bool (((s[i]'hilt).toNat : Int) / 16 == 1)) hss (HS8.out.1.put 0 _ _ rfl) HS8.out.2 h1_.out).mono ?_; rintro e W9 ⟨rfl, hS9, hi9⟩; have HS9 := Aside0.mk (And.intro hS9 hi9); clear HS8 hS9 hi9 h1_ hcz21_0 hcz21_1 hcz21_2 hcz21_3 hfz21_0 hfz21_1 hfz21_2 hfz21_3; obtain ⟨hcz22_0, hcz22_1, hcz22_2, hcz22_3⟩ := HS9.out.1.cells; have hfz22_0 := blk_frozen HS9.out.1.K 0; have hfz22_1 := blk_frozen HS9.out.1.K 1; have hfz22_2 := blk_frozen HS9.out.1.K 2; have hfz22_3 := blk_frozen HS9.out.1.K 3))
    go_wp2_with (first | ((with_reducible refine gate_builtin (b := .append) (xs := #[.tmp 56, .tmp 58]) rfl ?_); at_builtin; refine Kd.R_append k29 (w0 := w) w.heap.size rfl (.tmp 56) (.tmp 58) 24 29 (.agg #[(.string ⟨#[]⟩), (.int .i64 0), (.string ⟨#[]⟩), (.bool false)]) 48 rfl Tryd.underlying24 info29 rfl (by decide) (by omega) (.slice Ar t.length cr) t (impl_UnpackTree.ent s i p d) [.string p, .int .i64 (wrap64 (Go.bits .and .u8 ((s[i]'hilt).toNat : Int) 15)), .string d, .bool (((s[i]'hilt).toNat : Int) / 16 == 1)] (fun q => (q ≠ (w.heap.size + 1 + 1) ∧ q ≠ (w.heap.size + 1) ∧ q ≠ w.heap.size ∧ q ≠ (w.heap.size + 1 + 1 + 1)) ∧ q ≠ gb) (fun _ => False) rfl (by first | (go_simp; done) | (go_simp; rfl)) ?aP (fun _ hk => hk.elim) ?aF ?aO ?aB ?aS ?aL ?_; (case aP => rw [HKD.out.2]; unfold impl_UnpackTree.ent; rw [HKD.out.1]; exact k29_mkM _ _ _ (⟨p, ((s[i]'hilt).toNat : Int) % 16, d, ((s[i]'hilt).toNat : Int) / 16 == 1⟩ : S29)); (case aF => exact (HS9.out.1.put 2 _ _ rfl).fresh); (case aO => exact (HS9.out.1.put 2 _ _ rfl).R); (case aB => exact (HS9.out.1.put 2 _ _ rfl).B); (case aS => exact below_size (HS9.out.1.put 2 _ _ rfl).B); (case aL => omega); intro v3 w22 ho hb3 hg3 hat; have HM := Aside0.mk (impl_UnpackTree.St.more (HS9.out.1.put 2 _ _ rfl) ho hb3 hg3); have HI9 := Aside0.mk HS9.out.2; clear ho hb3 hg3 hat HS9 hcz22_0 hcz22_1 hcz22_2 hcz22_3 hfz22_0 hfz22_1 hfz22_2 hfz22_3))
    go_roundw
    case measure => simp [intOf]; omega
    case rel => exact ⟨kq, i2, n - 1, b2, t ++ [impl_UnpackTree.ent s i p d], by first | rfl | (rw [HW.out]) | (congr 1; omega), HI9.out, by omega, HA2, ⟨HM.out.1⟩, ⟨HM.out.2.1⟩, ⟨HM.out.2.2.1⟩, ⟨HM.out.2.2.2⟩⟩}}}
    {
    rw [if_neg hn] at hA
    obtain rfl := Option.some.inj hA
    have c1 : decide ((0 : Int) < (n : Int)) = false := decide_eq_false (by omega)
    have hH : ((impl_TreeOk.f k t).bind fun ok => if ok = true then (impl_PackTree.f k t).bind fun b => if (strOfNums b).toList = s.toList then some (t, true) else some ([], false) else some ([], false)) = some (r1, r2) := HH.out
    obtain ⟨ok, hok, hH⟩ := Option.bind_eq_some_iff.mp hH
    have HT := Aside0.mk hok
    clear hA HH hok
    cases ok with
    | false =>
     rw [if_neg (by decide)] at hH
     obtain ⟨rfl, rfl⟩ : ([] : List S29) = r1 ∧ false = r2 := by simpa using hH
     clear hH
     go_wp2
     refine start_ (n := 14) (S := fun w' => w'.cell? ⟨(w.heap.size + 1 + 1), 0, none⟩ = some (.bool true) ∧ w'.cell? ⟨w.heap.size, 0, none⟩ = some (.string s)) (ds := []) (bs_ 14 0) (by kernel_rfl) rfl (by kernel_rfl) ⟨(blk_cell HX.out.1 0).trans rfl, (blk_cell HX.out.2.2 0).trans rfl⟩ (fun hHeld => ?_)
     replace HX := Aside0.mk (show impl_UnpackTree.Bx wr.drew (w.heap.size + 1 + 1) (w.heap.size + 1) w.heap.size s i true from HX.out)
     replace HR := Aside0.mk (Kd.R_drew HR.out)
     replace HB := Aside0.mk (below_drew1 HB.out)
     generalize wr.drew = wd at HX HR HB hHeld ⊢
     refine take_ (i := 0) (N := some 60) (v := ?_) (a' := ?_) #[true, false, false, false, false, false, false, false, false, false, false, false, false, false] rfl rfl (by kernel_rfl) (fun _ _ _ h => h) (Or.inl ⟨by rfl, ?_⟩) hHeld ?_ ?_
     rotate_left
     {
     rintro w' ⟨s0, s1⟩
     go_simp
     with_reducible rfl}
     rotate_left
     {
     simp only [Act.put, List.setIfInBounds_toArray, List.set_cons_zero, List.set_cons_succ, i64_w, i32_w]
     rfl}
     refine pure_ (i := 1) (N := some 61) (v := ?_) (a' := ?_) #[true, true, false, false, false, false, false, false, false, false, false, false, false, false] rfl rfl (by kernel_rfl) (fun _ _ _ h => h) (Or.inl ⟨by rfl, ?_⟩) ?_ ?_
     rotate_left
     {
     intro w'
     go_simp
     with_reducible rfl}
     rotate_left
     {
     simp only [Act.put, List.setIfInBounds_toArray, List.set_cons_zero, List.set_cons_succ, i64_w, i32_w]
     rfl}
     refine pure_ (i := 2) (N := some 62) (v := ?_) (a' := ?_) #[true, true, true, false, false, false, false, false, false, false, false, false, false, false] rfl rfl (by kernel_rfl) (fun _ _ _ h => h) (Or.inl ⟨by rfl, ?_⟩) ?_ ?_
     rotate_left
     {
     intro w'
     go_simp
     with_reducible rfl}
     rotate_left
     {
     simp only [Act.put, List.setIfInBounds_toArray, List.set_cons_zero, List.set_cons_succ, i64_w, i32_w]
     rfl}
     refine pure_ (i := 3) (N := some 63) (v := ?_) (a' := ?_) #[true, true, true, true, false, false, false, false, false, false, false, false, false, false] rfl rfl (by kernel_rfl) (fun _ _ _ h => h) (Or.inl ⟨by rfl, ?_⟩) ?_ ?_
     rotate_left
     {
     intro w'
     go_simp
     with_reducible rfl}
     rotate_left
     {
     simp only [Act.put, List.setIfInBounds_toArray, List.set_cons_zero, List.set_cons_succ, i64_w, i32_w]
     rfl}
     refine one_ (i := 4) (N := some 64) #[true, true, true, true, true, false, false, false, false, false, false, false, false, false] rfl rfl (by kernel_rfl) (by decide) (fun K hK => ?_)
     refine goes_ Tryd.func22 (by kernel_rfl) rfl #[.slice Ar t.length cr] (by rfl) rfl rfl (by simp only [List.map_toArray, List.map_cons, List.map_nil]; rfl) ?_
     with_reducible refine (impl_TreeOk.calls k Ar cr t false _ (EnvW.below HEE.out HB.out) (Kd.R_reads' HR.out).2.2 (Kd.R_reads' HR.out).2.1 HT.out).mono ?_
     rintro e w8 ⟨rfl, hb8⟩
     refine ⟨_, rfl, ?_⟩
     replace HX := Aside0.mk (HX.out.below hb8)
     replace HR := Aside0.mk (Kd.R_below HR.out hb8)
     replace HB := Aside0.mk (below_step HB.out hb8)
     refine hK.out _ _ ⟨(blk_cell HX.out.1 0).trans rfl, (blk_cell HX.out.2.2 0).trans rfl⟩ (fun hHeld => ?_)
     clear hK K
     refine nS_ 64 ?_
     refine pure_ (i := 5) (N := some 65) (v := ?_) (a' := ?_) #[true, true, true, true, true, true, false, false, false, false, false, false, false, false] rfl rfl (by kernel_rfl) (fun _ _ _ h => h) (Or.inl ⟨by rfl, ?_⟩) ?_ ?_
     rotate_left
     {
     intro w'
     go_simp
     with_reducible rfl}
     rotate_left
     {
     simp only [Act.put, List.setIfInBounds_toArray, List.set_cons_zero, List.set_cons_succ, i64_w, i32_w]
     rfl}
     refine pure_ (i := 6) (N := some 66) (v := ?_) (a' := ?_) #[true, true, true, true, true, true, true, false, false, false, false, false, false, false] rfl rfl (by kernel_rfl) (fun _ _ _ h => h) (Or.inl ⟨by rfl, ?_⟩) ?_ ?_
     rotate_left
     {
     intro w'
     go_simp
     with_reducible rfl}
     rotate_left
     {
     simp only [Act.put, List.setIfInBounds_toArray, List.set_cons_zero, List.set_cons_succ, i64_w, i32_w]
     rfl}
     refine pure_ (i := 7) (N := some 67) (v := ?_) (a' := ?_) #[true, true, true, true, true, true, true, true, false, false, false, false, false, false] rfl rfl (by kernel_rfl) (fun _ _ _ h => h) (Or.inl ⟨by rfl, ?_⟩) ?_ ?_
     rotate_left
     {
     intro w'
     go_simp
     with_reducible rfl}
     rotate_left
     {
     simp only [Act.put, List.setIfInBounds_toArray, List.set_cons_zero, List.set_cons_succ, i64_w, i32_w]
     rfl}
     refine pure_ (i := 8) (N := some 68) (v := undef) (a' := ?_) #[true, true, true, true, true, true, true, true, true, false, false, false, false, false] rfl rfl (by kernel_rfl) (fun _ _ _ h => h) (Or.inr ⟨by rfl, rfl⟩) ?_ ?_
     rotate_left
     {
     simp only [Act.put, List.setIfInBounds_toArray, List.set_cons_zero, List.set_cons_succ, i64_w, i32_w]
     rfl}
     refine pure_ (i := 9) (N := some 69) (v := undef) (a' := ?_) #[true, true, true, true, true, true, true, true, true, true, false, false, false, false] rfl rfl (by kernel_rfl) (fun _ _ _ h => h) (Or.inr ⟨by rfl, rfl⟩) ?_ ?_
     rotate_left
     {
     simp only [Act.put, List.setIfInBounds_toArray, List.set_cons_zero, List.set_cons_succ, i64_w, i32_w]
     rfl}
     refine pure_ (i := 10) (N := some 70) (v := undef) (a' := ?_) #[true, true, true, true, true, true, true, true, true, true, true, false, false, false] rfl rfl (by kernel_rfl) (fun _ _ _ h => h) (Or.inr ⟨by rfl, rfl⟩) ?_ ?_
     rotate_left
     {
     simp only [Act.put, List.setIfInBounds_toArray, List.set_cons_zero, List.set_cons_succ, i64_w, i32_w]
     rfl}
     refine pure_ (i := 11) (N := some 71) (v := undef) (a' := ?_) #[true, true, true, true, true, true, true, true, true, true, true, true, false, false] rfl rfl (by kernel_rfl) (fun _ _ _ h => h) (Or.inr ⟨by rfl, rfl⟩) ?_ ?_
     rotate_left
     {
     simp only [Act.put, List.setIfInBounds_toArray, List.set_cons_zero, List.set_cons_succ, i64_w, i32_w]
     rfl}
     refine pure_ (i := 12) (N := some 72) (v := undef) (a' := ?_) #[true, true, true, true, true, true, true, true, true, true, true, true, true, false] rfl rfl (by kernel_rfl) (fun _ _ _ h => h) (Or.inr ⟨by rfl, rfl⟩) ?_ ?_
     rotate_left
     {
     simp only [Act.put, List.setIfInBounds_toArray, List.set_cons_zero, List.set_cons_succ, i64_w, i32_w]
     rfl}
     refine pure_ (i := 13) (N := some 73) (v := ?_) (a' := ?_) #[true, true, true, true, true, true, true, true, true, true, true, true, true, true] rfl rfl (by kernel_rfl) (fun _ _ _ h => h) (Or.inl ⟨by rfl, ?_⟩) ?_ ?_
     rotate_left
     {
     intro w'
     go_simp
     with_reducible rfl}
     rotate_left
     {
     simp only [Act.put, List.setIfInBounds_toArray, List.set_cons_zero, List.set_cons_succ, i64_w, i32_w]
     rfl}
     refine done_ (by kernel_rfl) ?_
     go_wp2
     exact bodyPost_ret (v := .tuple #[.slice none 0 0, .bool false]) (by simp [results, Tryd.results5, go_sem]) rfl ⟨_, rfl, Kd.R_nil _ _ _ _ _, bw_ HB⟩
    | true =>
     rw [if_pos rfl] at hH
     obtain ⟨bb, hbb, hH⟩ := Option.bind_eq_some_iff.mp hH
     have HP := Aside0.mk hbb
     clear hbb
     by_cases heq : (strOfNums bb).toList = s.toList
     {
     rw [if_pos heq] at hH
     obtain ⟨rfl, rfl⟩ : t = r1 ∧ true = r2 := by simpa using hH
     have hq1 : ((strOfNums bb).toList == s.toList) = true := by simpa using heq
     have hq2 : ((strOfNums bb).toList != s.toList) = false := by simpa using heq
     clear hH
     go_wp2
     refine start_ (n := 14) (S := fun w' => w'.cell? ⟨(w.heap.size + 1 + 1), 0, none⟩ = some (.bool true) ∧ w'.cell? ⟨w.heap.size, 0, none⟩ = some (.string s)) (ds := []) (bs_ 14 0) (by kernel_rfl) rfl (by kernel_rfl) ⟨(blk_cell HX.out.1 0).trans rfl, (blk_cell HX.out.2.2 0).trans rfl⟩ (fun hHeld => ?_)
     replace HX := Aside0.mk (show impl_UnpackTree.Bx wr.drew (w.heap.size + 1 + 1) (w.heap.size + 1) w.heap.size s i true from HX.out)
     replace HR := Aside0.mk (Kd.R_drew HR.out)
     replace HB := Aside0.mk (below_drew1 HB.out)
     generalize wr.drew = wd at HX HR HB hHeld ⊢
     refine take_ (i := 0) (N := some 60) (v := ?_) (a' := ?_) #[true, false, false, false, false, false, false, false, false, false, false, false, false, false] rfl rfl (by kernel_rfl) (fun _ _ _ h => h) (Or.inl ⟨by rfl, ?_⟩) hHeld ?_ ?_
     rotate_left
     {
     rintro w' ⟨s0, s1⟩
     go_simp
     with_reducible rfl}
     rotate_left
     {
     simp only [Act.put, List.setIfInBounds_toArray, List.set_cons_zero, List.set_cons_succ, i64_w, i32_w]
     rfl}
     refine pure_ (i := 1) (N := some 61) (v := ?_) (a' := ?_) #[true, true, false, false, false, false, false, false, false, false, false, false, false, false] rfl rfl (by kernel_rfl) (fun _ _ _ h => h) (Or.inl ⟨by rfl, ?_⟩) ?_ ?_
     rotate_left
     {
     intro w'
     go_simp
     with_reducible rfl}
     rotate_left
     {
     simp only [Act.put, List.setIfInBounds_toArray, List.set_cons_zero, List.set_cons_succ, i64_w, i32_w]
     rfl}
     refine pure_ (i := 2) (N := some 62) (v := ?_) (a' := ?_) #[true, true, true, false, false, false, false, false, false, false, false, false, false, false] rfl rfl (by kernel_rfl) (fun _ _ _ h => h) (Or.inl ⟨by rfl, ?_⟩) ?_ ?_
     rotate_left
     {
     intro w'
     go_simp
     with_reducible rfl}
     rotate_left
     {
     simp only [Act.put, List.setIfInBounds_toArray, List.set_cons_zero, List.set_cons_succ, i64_w, i32_w]
     rfl}
     refine pure_ (i := 3) (N := some 63) (v := ?_) (a' := ?_) #[true, true, true, true, false, false, false, false, false, false, false, false, false, false] rfl rfl (by kernel_rfl) (fun _ _ _ h => h) (Or.inl ⟨by rfl, ?_⟩) ?_ ?_
     rotate_left
     {
     intro w'
     go_simp
     with_reducible rfl}
     rotate_left
     {
     simp only [Act.put, List.setIfInBounds_toArray, List.set_cons_zero, List.set_cons_succ, i64_w, i32_w]
     rfl}
     refine one_ (i := 4) (N := some 64) #[true, true, true, true, true, false, false, false, false, false, false, false, false, false] rfl rfl (by kernel_rfl) (by decide) (fun K hK => ?_)
     refine goes_ Tryd.func22 (by kernel_rfl) rfl #[.slice Ar t.length cr] (by rfl) rfl rfl (by simp only [List.map_toArray, List.map_cons, List.map_nil]; rfl) ?_
     with_reducible refine (impl_TreeOk.calls k Ar cr t true _ (EnvW.below HEE.out HB.out) (Kd.R_reads' HR.out).2.2 (Kd.R_reads' HR.out).2.1 HT.out).mono ?_
     rintro e w8 ⟨rfl, hb8⟩
     refine ⟨_, rfl, ?_⟩
     replace HX := Aside0.mk (HX.out.below hb8)
     replace HR := Aside0.mk (Kd.R_below HR.out hb8)
     replace HB := Aside0.mk (below_step HB.out hb8)
     refine hK.out _ _ ⟨(blk_cell HX.out.1 0).trans rfl, (blk_cell HX.out.2.2 0).trans rfl⟩ (fun hHeld => ?_)
     clear hK K
     refine nS_ 64 ?_
     refine pure_ (i := 5) (N := some 65) (v := ?_) (a' := ?_) #[true, true, true, true, true, true, false, false, false, false, false, false, false, false] rfl rfl (by kernel_rfl) (fun _ _ _ h => h) (Or.inl ⟨by rfl, ?_⟩) ?_ ?_
     rotate_left
     {
     intro w'
     go_simp
     with_reducible rfl}
     rotate_left
     {
     simp only [Act.put, List.setIfInBounds_toArray, List.set_cons_zero, List.set_cons_succ, i64_w, i32_w]
     rfl}
     refine pure_ (i := 6) (N := some 66) (v := ?_) (a' := ?_) #[true, true, true, true, true, true, true, false, false, false, false, false, false, false] rfl rfl (by kernel_rfl) (fun _ _ _ h => h) (Or.inl ⟨by rfl, ?_⟩) ?_ ?_
     rotate_left
     {
     intro w'
     go_simp
     with_reducible rfl}
     rotate_left
     {
     simp only [Act.put, List.setIfInBounds_toArray, List.set_cons_zero, List.set_cons_succ, i64_w, i32_w]
     rfl}
     refine pure_ (i := 7) (N := some 67) (v := ?_) (a' := ?_) #[true, true, true, true, true, true, true, true, false, false, false, false, false, false] rfl rfl (by kernel_rfl) (fun _ _ _ h => h) (Or.inl ⟨by rfl, ?_⟩) ?_ ?_
     rotate_left
     {
     intro w'
     go_simp
     with_reducible rfl}
     rotate_left
     {
     simp only [Act.put, List.setIfInBounds_toArray, List.set_cons_zero, List.set_cons_succ, i64_w, i32_w]
     rfl}
     refine pure_ (i := 8) (N := some 68) (v := ?_) (a' := ?_) #[true, true, true, true, true, true, true, true, true, false, false, false, false, false] rfl rfl (by kernel_rfl) (fun _ _ _ h => h) (Or.inl ⟨by rfl, ?_⟩) ?_ ?_
     rotate_left
     {
     intro w'
     go_simp
     with_reducible rfl}
     rotate_left
     {
     simp only [Act.put, List.setIfInBounds_toArray, List.set_cons_zero, List.set_cons_succ, i64_w, i32_w]
     rfl}
     refine take_ (i := 11) (N := some 71) (v := ?_) (a' := ?_) #[true, true, true, true, true, true, true, true, true, false, false, true, false, false] rfl rfl (by kernel_rfl) (fun _ _ _ h => h) (Or.inl ⟨by rfl, ?_⟩) hHeld ?_ ?_
     rotate_left
     {
     rintro w' ⟨s0, s1⟩
     go_simp
     with_reducible rfl}
     rotate_left
     {
     simp only [Act.put, List.setIfInBounds_toArray, List.set_cons_zero, List.set_cons_succ, i64_w, i32_w]
     rfl}
     refine one_ (i := 9) (N := some 69) #[true, true, true, true, true, true, true, true, true, true, false, true, false, false] rfl rfl (by kernel_rfl) (by decide) (fun K hK => ?_)
     refine goes_ Tryd.func6 (by kernel_rfl) rfl #[.slice Ar t.length cr] (by rfl) rfl rfl (by simp only [List.map_toArray, List.map_cons, List.map_nil]; rfl) ?_
     with_reducible refine (impl_PackTree.calls k Ar cr t bb _ (EnvW.below HEE.out HB.out) (Kd.R_reads' HR.out).2.2 (Kd.R_reads' HR.out).2.1 HP.out).mono ?_
     rintro e w9 ⟨v9_, rfl, hR9, hb9⟩
     refine ⟨_, rfl, ?_⟩
     have HR9 := Aside0.mk hR9
     clear hR9
     replace HX := Aside0.mk (HX.out.below hb9)
     replace HR := Aside0.mk (Kd.R_below HR.out hb9)
     replace HB := Aside0.mk (below_step HB.out hb9)
     refine hK.out _ _ ⟨(blk_cell HX.out.1 0).trans rfl, (blk_cell HX.out.2.2 0).trans rfl⟩ (fun hHeld => ?_)
     clear hK K
     refine nS_ 69 ?_
     refine one_ (i := 10) (N := some 70) #[true, true, true, true, true, true, true, true, true, true, true, true, false, false] rfl rfl (by kernel_rfl) (by decide) (fun K hK => ?_)
     have hcv9 := own_string (P := Tryd.prog) Tryd.underlying22 Tryd.underlying5 Tryd.underlying9 (Kd.own_of_R HR9.out)
     refine value_ (w1 := ?_) (v := ?_) (by rfl) rfl ?_ ?_
     rotate_left 2
     {
     go_simp
     constructor
     {
     rfl}
     {
     rfl}}
     clear hcv9
     refine hK.out _ _ ⟨(blk_cell HX.out.1 0).trans rfl, (blk_cell HX.out.2.2 0).trans rfl⟩ (fun hHeld => ?_)
     clear hK K
     refine nS_ 70 ?_
     refine pure_ (i := 12) (N := some 72) (v := ?_) (a' := ?_) #[true, true, true, true, true, true, true, true, true, true, true, true, true, false] rfl rfl (by kernel_rfl) (fun _ _ _ h => h) (Or.inl ⟨by rfl, ?_⟩) ?_ ?_
     rotate_left
     {
     intro w'
     go_simp
     with_reducible rfl}
     rotate_left
     {
     simp only [Act.put, List.setIfInBounds_toArray, List.set_cons_zero, List.set_cons_succ, i64_w, i32_w]
     rfl}
     refine pure_ (i := 13) (N := some 73) (v := ?_) (a' := ?_) #[true, true, true, true, true, true, true, true, true, true, true, true, true, true] rfl rfl (by kernel_rfl) (fun _ _ _ h => h) (Or.inl ⟨by rfl, ?_⟩) ?_ ?_
     rotate_left
     {
     intro w'
     go_simp
     with_reducible rfl}
     rotate_left
     {
     simp only [Act.put, List.setIfInBounds_toArray, List.set_cons_zero, List.set_cons_succ, i64_w, i32_w]
     rfl}
     refine done_ (by kernel_rfl) ?_
     go_wp2
     exact bodyPost_ret (v := .tuple #[.slice Ar t.length cr, .bool true]) (by simp [results, Tryd.results5, go_sem]) rfl ⟨_, rfl, Kd.R_mono HR.out (fun _ _ => trivial), HB.out⟩}
     {
     rw [if_neg heq] at hH
     obtain ⟨rfl, rfl⟩ : ([] : List S29) = r1 ∧ false = r2 := by simpa using hH
     have hq1 : ((strOfNums bb).toList == s.toList) = false := by simpa using heq
     have hq2 : ((strOfNums bb).toList != s.toList) = true := by simpa using heq
     clear hH
     go_wp2
     refine start_ (n := 14) (S := fun w' => w'.cell? ⟨(w.heap.size + 1 + 1), 0, none⟩ = some (.bool true) ∧ w'.cell? ⟨w.heap.size, 0, none⟩ = some (.string s)) (ds := []) (bs_ 14 0) (by kernel_rfl) rfl (by kernel_rfl) ⟨(blk_cell HX.out.1 0).trans rfl, (blk_cell HX.out.2.2 0).trans rfl⟩ (fun hHeld => ?_)
     replace HX := Aside0.mk (show impl_UnpackTree.Bx wr.drew (w.heap.size + 1 + 1) (w.heap.size + 1) w.heap.size s i true from HX.out)
     replace HR := Aside0.mk (Kd.R_drew HR.out)
     replace HB := Aside0.mk (below_drew1 HB.out)
     generalize wr.drew = wd at HX HR HB hHeld ⊢
     refine take_ (i := 0) (N := some 60) (v := ?_) (a' := ?_) #[true, false, false, false, false, false, false, false, false, false, false, false, false, false] rfl rfl (by kernel_rfl) (fun _ _ _ h => h) (Or.inl ⟨by rfl, ?_⟩) hHeld ?_ ?_
     rotate_left
     {
     rintro w' ⟨s0, s1⟩
     go_simp
     with_reducible rfl}
     rotate_left
     {
     simp only [Act.put, List.setIfInBounds_toArray, List.set_cons_zero, List.set_cons_succ, i64_w, i32_w]
     rfl}
     refine pure_ (i := 1) (N := some 61) (v := ?_) (a' := ?_) #[true, true, false, false, false, false, false, false, false, false, false, false, false, false] rfl rfl (by kernel_rfl) (fun _ _ _ h => h) (Or.inl ⟨by rfl, ?_⟩) ?_ ?_
     rotate_left
     {
     intro w'
     go_simp
     with_reducible rfl}
     rotate_left
     {
     simp only [Act.put, List.setIfInBounds_toArray, List.set_cons_zero, List.set_cons_succ, i64_w, i32_w]
     rfl}
     refine pure_ (i := 2) (N := some 62) (v := ?_) (a' := ?_) #[true, true, true, false, false, false, false, false, false, false, false, false, false, false] rfl rfl (by kernel_rfl) (fun _ _ _ h => h) (Or.inl ⟨by rfl, ?_⟩) ?_ ?_
     rotate_left
     {
     intro w'
     go_simp
     with_reducible rfl}
     rotate_left
     {
     simp only [Act.put, List.setIfInBounds_toArray, List.set_cons_zero, List.set_cons_succ, i64_w, i32_w]
     rfl}
     refine pure_ (i := 3) (N := some 63) (v := ?_) (a' := ?_) #[true, true, true, true, false, false, false, false, false, false, false, false, false, false] rfl rfl (by kernel_rfl) (fun _ _ _ h => h) (Or.inl ⟨by rfl, ?_⟩) ?_ ?_
     rotate_left
     {
     intro w'
     go_simp
     with_reducible rfl}
     rotate_left
     {
     simp only [Act.put, List.setIfInBounds_toArray, List.set_cons_zero, List.set_cons_succ, i64_w, i32_w]
     rfl}
     refine one_ (i := 4) (N := some 64) #[true, true, true, true, true, false, false, false, false, false, false, false, false, false] rfl rfl (by kernel_rfl) (by decide) (fun K hK => ?_)
     refine goes_ Tryd.func22 (by kernel_rfl) rfl #[.slice Ar t.length cr] (by rfl) rfl rfl (by simp only [List.map_toArray, List.map_cons, List.map_nil]; rfl) ?_
     with_reducible refine (impl_TreeOk.calls k Ar cr t true _ (EnvW.below HEE.out HB.out) (Kd.R_reads' HR.out).2.2 (Kd.R_reads' HR.out).2.1 HT.out).mono ?_
     rintro e w8 ⟨rfl, hb8⟩
     refine ⟨_, rfl, ?_⟩
     replace HX := Aside0.mk (HX.out.below hb8)
     replace HR := Aside0.mk (Kd.R_below HR.out hb8)
     replace HB := Aside0.mk (below_step HB.out hb8)
     refine hK.out _ _ ⟨(blk_cell HX.out.1 0).trans rfl, (blk_cell HX.out.2.2 0).trans rfl⟩ (fun hHeld => ?_)
     clear hK K
     refine nS_ 64 ?_
     refine pure_ (i := 5) (N := some 65) (v := ?_) (a' := ?_) #[true, true, true, true, true, true, false, false, false, false, false, false, false, false] rfl rfl (by kernel_rfl) (fun _ _ _ h => h) (Or.inl ⟨by rfl, ?_⟩) ?_ ?_
     rotate_left
     {
     intro w'
     go_simp
     with_reducible rfl}
     rotate_left
     {
     simp only [Act.put, List.setIfInBounds_toArray, List.set_cons_zero, List.set_cons_succ, i64_w, i32_w]
     rfl}
     refine pure_ (i := 6) (N := some 66) (v := ?_) (a' := ?_) #[true, true, true, true, true, true, true, false, false, false, false, false, false, false] rfl rfl (by kernel_rfl) (fun _ _ _ h => h) (Or.inl ⟨by rfl, ?_⟩) ?_ ?_
     rotate_left
     {
     intro w'
     go_simp
     with_reducible rfl}
     rotate_left
     {
     simp only [Act.put, List.setIfInBounds_toArray, List.set_cons_zero, List.set_cons_succ, i64_w, i32_w]
     rfl}
     refine pure_ (i := 7) (N := some 67) (v := ?_) (a' := ?_) #[true, true, true, true, true, true, true, true, false, false, false, false, false, false] rfl rfl (by kernel_rfl) (fun _ _ _ h => h) (Or.inl ⟨by rfl, ?_⟩) ?_ ?_
     rotate_left
     {
     intro w'
     go_simp
     with_reducible rfl}
     rotate_left
     {
     simp only [Act.put, List.setIfInBounds_toArray, List.set_cons_zero, List.set_cons_succ, i64_w, i32_w]
     rfl}
     refine pure_ (i := 8) (N := some 68) (v := ?_) (a' := ?_) #[true, true, true, true, true, true, true, true, true, false, false, false, false, false] rfl rfl (by kernel_rfl) (fun _ _ _ h => h) (Or.inl ⟨by rfl, ?_⟩) ?_ ?_
     rotate_left
     {
     intro w'
     go_simp
     with_reducible rfl}
     rotate_left
     {
     simp only [Act.put, List.setIfInBounds_toArray, List.set_cons_zero, List.set_cons_succ, i64_w, i32_w]
     rfl}
     refine take_ (i := 11) (N := some 71) (v := ?_) (a' := ?_) #[true, true, true, true, true, true, true, true, true, false, false, true, false, false] rfl rfl (by kernel_rfl) (fun _ _ _ h => h) (Or.inl ⟨by rfl, ?_⟩) hHeld ?_ ?_
     rotate_left
     {
     rintro w' ⟨s0, s1⟩
     go_simp
     with_reducible rfl}
     rotate_left
     {
     simp only [Act.put, List.setIfInBounds_toArray, List.set_cons_zero, List.set_cons_succ, i64_w, i32_w]
     rfl}
     refine one_ (i := 9) (N := some 69) #[true, true, true, true, true, true, true, true, true, true, false, true, false, false] rfl rfl (by kernel_rfl) (by decide) (fun K hK => ?_)
     refine goes_ Tryd.func6 (by kernel_rfl) rfl #[.slice Ar t.length cr] (by rfl) rfl rfl (by simp only [List.map_toArray, List.map_cons, List.map_nil]; rfl) ?_
     with_reducible refine (impl_PackTree.calls k Ar cr t bb _ (EnvW.below HEE.out HB.out) (Kd.R_reads' HR.out).2.2 (Kd.R_reads' HR.out).2.1 HP.out).mono ?_
     rintro e w9 ⟨v9_, rfl, hR9, hb9⟩
     refine ⟨_, rfl, ?_⟩
     have HR9 := Aside0.mk hR9
     clear hR9
     replace HX := Aside0.mk (HX.out.below hb9)
     replace HR := Aside0.mk (Kd.R_below HR.out hb9)
     replace HB := Aside0.mk (below_step HB.out hb9)
     refine hK.out _ _ ⟨(blk_cell HX.out.1 0).trans rfl, (blk_cell HX.out.2.2 0).trans rfl⟩ (fun hHeld => ?_)
     clear hK K
     refine nS_ 69 ?_
     refine one_ (i := 10) (N := some 70) #[true, true, true, true, true, true, true, true, true, true, true, true, false, false] rfl rfl (by kernel_rfl) (by decide) (fun K hK => ?_)
     have hcv9 := own_string (P := Tryd.prog) Tryd.underlying22 Tryd.underlying5 Tryd.underlying9 (Kd.own_of_R HR9.out)
     refine value_ (w1 := ?_) (v := ?_) (by rfl) rfl ?_ ?_
     rotate_left 2
     {
     go_simp
     constructor
     {
     rfl}
     {
     rfl}}
     clear hcv9
     refine hK.out _ _ ⟨(blk_cell HX.out.1 0).trans rfl, (blk_cell HX.out.2.2 0).trans rfl⟩ (fun hHeld => ?_)
     clear hK K
     refine nS_ 70 ?_
     refine pure_ (i := 12) (N := some 72) (v := ?_) (a' := ?_) #[true, true, true, true, true, true, true, true, true, true, true, true, true, false] rfl rfl (by kernel_rfl) (fun _ _ _ h => h) (Or.inl ⟨by rfl, ?_⟩) ?_ ?_
     rotate_left
     {
     intro w'
     go_simp
     with_reducible rfl}
     rotate_left
     {
     simp only [Act.put, List.setIfInBounds_toArray, List.set_cons_zero, List.set_cons_succ, i64_w, i32_w]
     rfl}
     refine pure_ (i := 13) (N := some 73) (v := ?_) (a' := ?_) #[true, true, true, true, true, true, true, true, true, true, true, true, true, true] rfl rfl (by kernel_rfl) (fun _ _ _ h => h) (Or.inl ⟨by rfl, ?_⟩) ?_ ?_
     rotate_left
     {
     intro w'
     go_simp
     with_reducible rfl}
     rotate_left
     {
     simp only [Act.put, List.setIfInBounds_toArray, List.set_cons_zero, List.set_cons_succ, i64_w, i32_w]
     rfl}
     refine done_ (by kernel_rfl) ?_
     go_wp2
     exact bodyPost_ret (v := .tuple #[.slice none 0 0, .bool false]) (by simp [results, Tryd.results5, go_sem]) rfl ⟨_, rfl, Kd.R_nil _ _ _ _ _, bw_ HB⟩
}}
def IsS72 (w0 W : World) (g : Nat) (f0 : List Int) (f1 : Int) (f2 : Int) : Prop := ∃ A0 c0, W.heap[g]? = some (.cells #[.slice A0 f0.length c0, .int .i64 f1, .int .i64 f2] 72 (0, 0)) ∧ w0.heap.size ≤ g ∧ Kd.C (Kd.int .u8) w0 A0 f0.length f0
theorem IsS72.grown {w0 W : World} {g : Nat} {f0 : List Int} {f1 : Int} {f2 : Int} {W1 : World} {row : Option Nat} (h : IsS72 w0 W g f0 f1 f2) (hw : W.grownBy W1 row) (hne : some g ≠ row) : IsS72 w0 W1 g f0 f1 f2 := by
 obtain ⟨A0, c0, hb, hg, hr0⟩ := h
 exact ⟨A0, c0, blk_grown hb hw hne, hg, hr0⟩
theorem IsS72.fresh {w0 W : World} {g : Nat} {f0 : List Int} {f1 : Int} {f2 : Int} (h : IsS72 w0 W g f0 f1 f2) : ∀ k, W.heap.size ≤ k → k ≠ g := by
 obtain ⟨A0, c0, hb, hg, hr0⟩ := h
 exact Kd.freshB hb
theorem IsS72.kept {w0 W : World} {g : Nat} {f0 : List Int} {f1 : Int} {f2 : Int} {W1 : World} {S : Nat → Prop} (h : IsS72 w0 W g f0 f1 f2) (hk : Kept W W1 S) (hne : ¬ S g) : IsS72 w0 W1 g f0 f1 f2 := by
 obtain ⟨A0, c0, hb, hg, hr0⟩ := h
 exact ⟨A0, c0, blk_kept hb hk hne, hg, hr0⟩
theorem IsS72.below {w0 W : World} {g : Nat} {f0 : List Int} {f1 : Int} {f2 : Int} {W1 : World} (h : IsS72 w0 W g f0 f1 f2) (hw : Below W.heap.size W W1) : IsS72 w0 W1 g f0 f1 f2 := h.grown (grown_of_below hw none) (by simp)
theorem IsS72.alloc {w0 W : World} {g : Nat} {f0 : List Int} {f1 : Int} {f2 : Int} (h : IsS72 w0 W g f0 f1 f2) (o : Obj) : IsS72 w0 (W.alloc o) g f0 f1 f2 := h.below (below_alloc (Below.refl _ _) o)
theorem IsS72.drewN {w0 W : World} {g : Nat} {f0 : List Int} {f1 : Int} {f2 : Int} (h : IsS72 w0 W g f0 f1 f2) (m : Nat) : IsS72 w0 (W.drewN m) g f0 f1 f2 := h
theorem IsS72.drew {w0 W : World} {g : Nat} {f0 : List Int} {f1 : Int} {f2 : Int} (h : IsS72 w0 W g f0 f1 f2) : IsS72 w0 W.drew g f0 f1 f2 := h
theorem IsS72.at_ {w0 W : World} {g : Nat} {f0 : List Int} {f1 : Int} {f2 : Int} {w' : World} {m : Nat} (hq : W.drewN m = w') (h : IsS72 w0 W g f0 f1 f2) : IsS72 w0 w' g f0 f1 f2 := by subst hq; exact IsS72.drewN h m
theorem IsS72.apart {w0 W : World} {g : Nat} {f0 : List Int} {f1 : Int} {f2 : Int} {α : Type} {d : Kd α} {e : Nat} {base : Nat} {ok : Nat → Prop} {v : Value} {xs : List α} (h : IsS72 w0 W g f0 f1 f2) (ho : d.R e W base ok v xs) (ht : ∀ q, q ∈ e :: d.E → q ≠ 72) : d.R e W base (fun k => ok k ∧ k ≠ g) v xs := by
 obtain ⟨A0, c0, hb, hg, hr0⟩ := h
 exact Kd.R_types ho hb ht
theorem IsS72.own_ne {w0 W : World} {g : Nat} {f0 : List Int} {f1 : Int} {f2 : Int} {α : Type} {d : Kd α} {e : Nat} {base : Nat} {ok : Nat → Prop} {v : Value} {xs : List α} (h : IsS72 w0 W g f0 f1 f2) (ho : d.R e W base ok v xs) (ht : e ≠ 72) : some g ≠ v.ownBlock := by
 obtain ⟨A0, c0, hb, hg, hr0⟩ := h
 exact Kd.R_ne ho hb ht
theorem IsS72.lt {w0 W : World} {g : Nat} {f0 : List Int} {f1 : Int} {f2 : Int} (h : IsS72 w0 W g f0 f1 f2) : g < W.heap.size := by
 obtain ⟨A0, c0, hb, hg, hr0⟩ := h
 exact blk_lt hb
theorem IsS72.ge {w0 W : World} {g : Nat} {f0 : List Int} {f1 : Int} {f2 : Int} (h : IsS72 w0 W g f0 f1 f2) : w0.heap.size ≤ g := by
 obtain ⟨A0, c0, hb, hg, hr0⟩ := h
 exact hg
theorem IsS72.ne_blk {w0 W : World} {g : Nat} {f0 : List Int} {f1 : Int} {f2 : Int} {a : Nat} {cs : Array Value} {t : TypeId} {fr : Nat × Nat} (h : IsS72 w0 W g f0 f1 f2) (hb2 : W.heap[a]? = some (.cells cs t fr)) (ht : t ≠ 72) : g ≠ a := by
 obtain ⟨A0, c0, hb, hg, hr0⟩ := h
 rintro rfl
 rw [hb] at hb2
 injection hb2 with hb2
 injection hb2 with _ ht2
 exact ht ht2.symm
theorem IsS72.far {w0 W : World} {g : Nat} {f0 : List Int} {f1 : Int} {f2 : Int} {p : Addr} (h : IsS72 w0 W g f0 f1 f2) (hne : g ≠ p.block) (u : Value) : IsS72 w0 (W.setCell p u) g f0 f1 f2 := by
 obtain ⟨A0, c0, hb, hg, hr0⟩ := h
 exact ⟨A0, c0, blk_far hb hne u, hg, hr0⟩
theorem cellS72_0 {W : World} {g : Nat} {A0 : Option Addr} {c0 : Nat} {f0 : List Int} {f1 : Int} {f2 : Int} (h : W.heap[g]? = some (.cells #[.slice A0 f0.length c0, .int .i64 f1, .int .i64 f2] 72 (0, 0))) : W.cell? ⟨g, 0, none⟩ = some (.slice A0 f0.length c0) := (blk_cell h 0).trans rfl
theorem cellS72_1 {W : World} {g : Nat} {A0 : Option Addr} {c0 : Nat} {f0 : List Int} {f1 : Int} {f2 : Int} (h : W.heap[g]? = some (.cells #[.slice A0 f0.length c0, .int .i64 f1, .int .i64 f2] 72 (0, 0))) : W.cell? ⟨g, 1, none⟩ = some (.int .i64 f1) := (blk_cell h 1).trans rfl
theorem IsS72.set_1 {w0 W : World} {g : Nat} {f0 : List Int} {f1 : Int} {f2 : Int} (h : IsS72 w0 W g f0 f1 f2) (x : Int) : IsS72 w0 (W.setCell ⟨g, 1, none⟩ (.int .i64 x)) g f0 x f2 := by
 obtain ⟨A0, c0, hb, hg, hr0⟩ := h
 exact ⟨A0, c0, by simpa using blk_set hb 1 (.int .i64 x), hg, hr0⟩
theorem cellS72_2 {W : World} {g : Nat} {A0 : Option Addr} {c0 : Nat} {f0 : List Int} {f1 : Int} {f2 : Int} (h : W.heap[g]? = some (.cells #[.slice A0 f0.length c0, .int .i64 f1, .int .i64 f2] 72 (0, 0))) : W.cell? ⟨g, 2, none⟩ = some (.int .i64 f2) := (blk_cell h 2).trans rfl
theorem IsS72.set_2 {w0 W : World} {g : Nat} {f0 : List Int} {f1 : Int} {f2 : Int} (h : IsS72 w0 W g f0 f1 f2) (x : Int) : IsS72 w0 (W.setCell ⟨g, 2, none⟩ (.int .i64 x)) g f0 f1 x := by
 obtain ⟨A0, c0, hb, hg, hr0⟩ := h
 exact ⟨A0, c0, by simpa using blk_set hb 2 (.int .i64 x), hg, hr0⟩
theorem is72_ {p q : Prop} (H : Aside0 p) (h : p → q := by intro hI_; repeat (first | (with_reducible first | exact hI_ | apply IsS72.alloc | apply IsS72.drewN | apply IsS72.drew | apply IsS72.set_1 | apply IsS72.set_2) | exact hI_)) : q := h H.out
theorem IsS72.new (w0 W : World) (A0 : Option Addr) (c0 : Nat) (f0 : List Int) (f1 : Int) (f2 : Int) (hB : Below w0.heap.size w0 W) (hr0 : Kd.C (Kd.int .u8) w0 A0 f0.length f0) : IsS72 w0 (W.alloc (.cells #[.slice A0 f0.length c0, .int .i64 f1, .int .i64 f2] 72)) W.heap.size f0 f1 f2 := ⟨A0, c0, by simpa using heap_alloc_new W _, hB.size, hr0⟩
def spec_l1New.l0 : Nat → List Int → Int → Int → Option (List Int × Int × Int)
 | 0, _, _, _ => none
 | k + 1, x0, x3, x4 => if x4 < (x0.length : Int) then (if 0 ≤ x4 then (spec_l1New.l0 k x0 (Go.bits .and .i64 (wrap64 ((wrap64 ((wrap64 (x3 * 139)) + (wrap64 (rd x0 x4)))) + 13)) 1073741823) (wrap64 (x4 + 1))) else (none)) else (some (x0, 0, x3))
def spec_l1New.f (k : Nat) (l0 : List Int) : Option (List Int × Int × Int) := spec_l1New.l0 k l0 (wrap64 (57731 + (l0.length : Int))) 0
theorem spec_l1New.calls (k : Nat) (A0 : Option Addr) (c0 : Nat) (l0 : List Int) (r1 : List Int) (r2 : Int) (r3 : Int) (w0 w : World) (hB : Below w0.heap.size w0 w) (hr0 : Kd.C (Kd.int .u8) w0 A0 l0.length l0) (hc0 : l0.length ≤ c0) (h : spec_l1New.f k l0 = some (r1, r2, r3)) :
 Calls Tryd.prog 24 #[.slice A0 l0.length c0] w fun e w' => ∃ g_ : Nat, e = .returned (.pointer (some ⟨g_, 0, none⟩)) ∧ IsS72 w0 w' g_ r1 r2 r3 ∧ Below w0.heap.size w0 w' ∧ Below w.heap.size w w' := by
 have hu72 := Tryd.underlying72
 have HR0 := Aside0.mk hr0
 have HC0 := Aside0.mk hc0
 clear hr0 hc0
 have HBW := Aside0.mk (Below.refl w.heap.size w)
 have HW0 := Aside0.mk hB.size
 have HB := Aside0.mk hB
 clear hB
 have H : (spec_l1New.l0 k l0 (wrap64 (57731 + (l0.length : Int))) 0) = some (r1, r2, r3) := h
 clear h
 have H' := Aside0.mk H
 clear H
 go_enter Tryd.func24, Tryd.ntmps24
 go_wp2
 go_loopg [3, 4] k (fun kq v3 v4 w' => ∃ (x3_1 : Int) (x4_1 : Int), v3 = .int .i64 x3_1 ∧ v4 = .int .i64 x4_1 ∧ Aside0 (spec_l1New.l0 kq l0 x3_1 x4_1 = some (r1, r2, r3)) ∧ Aside0 (kq ≤ k) ∧ Aside0 (Below w0.heap.size w0 w') ∧ Aside0 (Below w.heap.size w w'))
 case atStart => exact ⟨(wrap64 (57731 + (l0.length : Int))), (0), (by first | rfl | (simp; done) | (simp [*]; done)), (by first | rfl | (simp; done) | (simp [*]; done)), H', ⟨Nat.le_refl _⟩, ⟨bw_ HB⟩, ⟨bw_ HBW⟩⟩
 case round =>
  clear H'
  obtain ⟨x3_1, x4_1, rfl, rfl, HA, HK1, HB, HBW⟩ := hrel
  cases gk with
  | zero => exact absurd HA.out (by simp [spec_l1New.l0])
  | succ k1 =>
   have H := HA.out
   clear HA
   simp only [spec_l1New.l0] at H
   by_cases c2 : x4_1 < (l0.length : Int)
   {
   rw [if_pos c2] at H
   have c2b0 := decide_eq_true c2
   clear c2
   by_cases c3 : 0 ≤ x4_1
   {
   rw [if_pos c3] at H
   have c3b0 := decide_eq_true c3
   clear c3
   have H' := Aside0.mk H
   clear H
   have p167 : 0 ≤ (x4_1 : Int) := dA_
   have q167 : x4_1 < (l0.length : Int) := dA_
   obtain ⟨ad167, e167, hx167_0⟩ := Kd.at_int HR0.out x4_1 p167 q167
   cases e167
   replace hx167_0 := pw_cell_below HB.out hx167_0
   replace p167 := eq_true p167
   replace q167 := eq_true q167
   go_wp2
   go_roundg k1
   case measure => have := HK1.out; omega
   case rel => exact ⟨(Go.bits .and .i64 (wrap64 ((wrap64 ((wrap64 (x3_1 * 139)) + (wrap64 (rd l0 x4_1)))) + 13)) 1073741823), (wrap64 (x4_1 + 1)), (by first | rfl | (simp; done) | (simp [*]; done)), (by first | rfl | (simp; done) | (simp [*]; done)), H', ⟨by have := HK1.out; omega⟩, ⟨bw_ HB⟩, ⟨bw_ HBW⟩⟩}
   {
   rw [if_neg c3] at H
   exact absurd H (by simp)}}
   {
   rw [if_neg c2] at H
   have c2b0 := decide_eq_false c2
   clear c2
   simp only [Option.some.injEq, Prod.mk.injEq] at H
   obtain ⟨rfl, rfl, rfl⟩ := H
   go_wp2_with (first | ((with_reducible refine gate_dst (N := 27) rfl ?_); refine bE_ 27 #[.slice A0 l0.length c0, .int .i64 0, .int .i64 x3_1] 72 ?_; intro gb168 hg w4 hbox hb; replace HB := Aside0.mk (below_step (bw_ HB) hb); have BK168 := Aside0.mk (hbox); have GW168 := Aside0.mk ((ge_ hg (bw_ HBW))); have GE168 := Aside0.mk ((Nat.le_trans HW0.out (ge_ hg (bw_ HBW)) : w0.heap.size ≤ gb168)); replace HBW := Aside0.mk (below_step HBW.out hb); clear hb hbox hg))
   go_ret
   exact ⟨_, rfl, (show IsS72 w0 _ gb168 l0 0 x3_1 from ⟨_, _, bk_ BK168, GE168.out, HR0.out⟩), bw1_ HB GE168, bw1_ HBW GW168⟩}
def spec_l1Byte.f (s0_0 : List Int) (s0_1 : Int) (s0_2 : Int) : Option (Int × Int × Int) := if s0_1 < (s0_0.length : Int) then (if 0 ≤ s0_1 then (some (Go.bits .and .i64 (wrap64 ((Go.bits .and .i64 (Go.bits .xor .i64 ((wrap64 ((wrap64 (s0_2 * 6364136223846793005)) + 1442695040888963407)) / 8589934592) ((wrap64 ((wrap64 (s0_2 * 6364136223846793005)) + 1442695040888963407)) / 35184372088832)) 255) + (wrap64 (rd s0_0 s0_1)))) 255, wrap64 (s0_1 + 1), wrap64 ((wrap64 (s0_2 * 6364136223846793005)) + 1442695040888963407))) else (none)) else (some (Go.bits .and .i64 (Go.bits .xor .i64 ((wrap64 ((wrap64 (s0_2 * 6364136223846793005)) + 1442695040888963407)) / 8589934592) ((wrap64 ((wrap64 (s0_2 * 6364136223846793005)) + 1442695040888963407)) / 35184372088832)) 255, s0_1, wrap64 ((wrap64 (s0_2 * 6364136223846793005)) + 1442695040888963407)))
theorem spec_l1Byte.calls (g : Nat) (s0_0 : List Int) (s0_1 : Int) (s0_2 : Int) (r1 : Int) (r2 : Int) (r3 : Int) (w0 w : World) (hI : IsS72 w0 w g s0_0 s0_1 s0_2) (hB : Below w0.heap.size w0 w) (h : spec_l1Byte.f s0_0 s0_1 s0_2 = some (r1, r2, r3)) :
 Calls Tryd.prog 55 #[.pointer (some ⟨g, 0, none⟩)] w fun e w' => e = .returned (.int .i64 r1) ∧ IsS72 w0 w' g s0_0 r2 r3 ∧ Below w0.heap.size w0 w' ∧ KeepBut w w' g none := by
 have HI0 := Aside0.mk hI
 have HK := Aside0.mk (KeepBut.refl w g none)
 have HL := Aside0.mk hB.size
 clear hI
 have HW0 := Aside0.mk hB.size
 have HB := Aside0.mk hB
 clear hB
 have H : (if s0_1 < (s0_0.length : Int) then (if 0 ≤ s0_1 then (some (Go.bits .and .i64 (wrap64 ((Go.bits .and .i64 (Go.bits .xor .i64 ((wrap64 ((wrap64 (s0_2 * 6364136223846793005)) + 1442695040888963407)) / 8589934592) ((wrap64 ((wrap64 (s0_2 * 6364136223846793005)) + 1442695040888963407)) / 35184372088832)) 255) + (wrap64 (rd s0_0 s0_1)))) 255, wrap64 (s0_1 + 1), wrap64 ((wrap64 (s0_2 * 6364136223846793005)) + 1442695040888963407))) else (none)) else (some (Go.bits .and .i64 (Go.bits .xor .i64 ((wrap64 ((wrap64 (s0_2 * 6364136223846793005)) + 1442695040888963407)) / 8589934592) ((wrap64 ((wrap64 (s0_2 * 6364136223846793005)) + 1442695040888963407)) / 35184372088832)) 255, s0_1, wrap64 ((wrap64 (s0_2 * 6364136223846793005)) + 1442695040888963407)))) = some (r1, r2, r3) := h
 clear h
 by_cases c2 : s0_1 < (s0_0.length : Int)
 {
 rw [if_pos c2] at H
 have c2b0 := decide_eq_true c2
 clear c2
 by_cases c3 : 0 ≤ s0_1
 {
 rw [if_pos c3] at H
 have c3b0 := decide_eq_true c3
 clear c3
 simp only [Option.some.injEq, Prod.mk.injEq] at H
 obtain ⟨rfl, rfl, rfl⟩ := H
 obtain ⟨ASz4_0, cSz4_0, HGz4, hgz4, HSz4_0⟩ := HI0.out
 have hcz4_0 := cellS72_0 HGz4
 have hcz4_1 := cellS72_1 HGz4
 have hcz4_2 := cellS72_2 HGz4
 have hfz4_1 := blk_frozen HGz4 1
 have hfz4_2 := blk_frozen HGz4 2
 clear HGz4 hgz4
 have p169 : 0 ≤ (s0_1 : Int) := dA_
 have q169 : s0_1 < (s0_0.length : Int) := dA_
 obtain ⟨ad169, e169, hx169_0⟩ := Kd.at_int HSz4_0 s0_1 p169 q169
 cases e169
 have hn169_0 : ad169.block ≠ g := Nat.ne_of_lt (Nat.lt_of_lt_of_le (by have := World.block_lt_of_cell? _ _ hx169_0; first | rwa [add_block] at this | exact this) (IsS72.ge HI0.out))
 replace hx169_0 := pw_cell_below HB.out hx169_0
 replace hx169_0 := (cell_far (p := ⟨g, 2, none⟩) (by first | (rw [add_block]; exact hn169_0) | (show (Addr.add _ _).block ≠ _; rw [add_block]; exact hn169_0) | exact hn169_0) (.int .i64 (wrap64 ((wrap64 (s0_2 * 6364136223846793005)) + 1442695040888963407)))).trans hx169_0
 (try have hy169_0 := fun (n_ : Nat) => (show (((w.drewN n_).setCell ⟨g, 2, none⟩ (.int .i64 (wrap64 ((wrap64 (s0_2 * 6364136223846793005)) + 1442695040888963407))))).cell? _ = some _ from hx169_0))
 clear hn169_0
 replace p169 := eq_true p169
 replace q169 := eq_true q169
 go_enter Tryd.func55, Tryd.ntmps55
 go_wp2
 repeat (go_quiet (fail); try go_wp2)
 go_ret
 exact ⟨eR_, is72_ HI0, bwg_ HB (IsS72.ge HI0.out), kb_ HK⟩}
 {
 rw [if_neg c3] at H
 exact absurd H (by simp)}}
 {
 rw [if_neg c2] at H
 have c2b0 := decide_eq_false c2
 clear c2
 simp only [Option.some.injEq, Prod.mk.injEq] at H
 obtain ⟨rfl, rfl, rfl⟩ := H
 obtain ⟨ASz5_0, cSz5_0, HGz5, hgz5, HSz5_0⟩ := HI0.out
 have hcz5_0 := cellS72_0 HGz5
 have hcz5_1 := cellS72_1 HGz5
 have hcz5_2 := cellS72_2 HGz5
 have hfz5_1 := blk_frozen HGz5 1
 have hfz5_2 := blk_frozen HGz5 2
 clear HGz5 hgz5
 go_enter Tryd.func55, Tryd.ntmps55
 go_wp2
 repeat (go_quiet (fail); try go_wp2)
 go_ret
 exact ⟨eR_, is72_ HI0, bwg_ HB (IsS72.ge HI0.out), kb_ HK⟩}
def spec_l1Below.f (s0_0 : List Int) (s0_1 : Int) (s0_2 : Int) (a1 : Int) : Option (Int × Int × Int) := if a1 ≤ 0 then (some (0, s0_1, s0_2)) else (if a1 ≤ 256 then ((spec_l1Byte.f s0_0 s0_1 s0_2).bind fun bt170 => (if a1 = 0 then (none) else (some (Int.tmod bt170.1 a1, bt170.2.1, bt170.2.2)))) else ((spec_l1Byte.f s0_0 s0_1 s0_2).bind fun bt173 => ((spec_l1Byte.f s0_0 bt173.2.1 bt173.2.2).bind fun bt176 => ((spec_l1Byte.f s0_0 bt176.2.1 bt176.2.2).bind fun bt179 => ((spec_l1Byte.f s0_0 bt179.2.1 bt179.2.2).bind fun bt182 => (if a1 = 0 then (none) else (some (Int.tmod (wrap64 ((wrap64 ((wrap64 ((wrap64 (bt173.1 * 16777216)) + (wrap64 (bt176.1 * 65536)))) + (wrap64 (bt179.1 * 256)))) + bt182.1)) a1, bt182.2.1, bt182.2.2))))))))
theorem spec_l1Below.calls (g : Nat) (s0_0 : List Int) (s0_1 : Int) (s0_2 : Int) (a1 : Int) (r1 : Int) (r2 : Int) (r3 : Int) (w0 w : World) (hI : IsS72 w0 w g s0_0 s0_1 s0_2) (hB : Below w0.heap.size w0 w) (h : spec_l1Below.f s0_0 s0_1 s0_2 a1 = some (r1, r2, r3)) :
 Calls Tryd.prog 32 #[.pointer (some ⟨g, 0, none⟩), .int .i64 a1] w fun e w' => e = .returned (.int .i64 r1) ∧ IsS72 w0 w' g s0_0 r2 r3 ∧ Below w0.heap.size w0 w' ∧ KeepBut w w' g none := by
 have HI0 := Aside0.mk hI
 have HK := Aside0.mk (KeepBut.refl w g none)
 have HL := Aside0.mk hB.size
 clear hI
 have HW0 := Aside0.mk hB.size
 have HB := Aside0.mk hB
 clear hB
 have H : (if a1 ≤ 0 then (some (0, s0_1, s0_2)) else (if a1 ≤ 256 then ((spec_l1Byte.f s0_0 s0_1 s0_2).bind fun bt170 => (if a1 = 0 then (none) else (some (Int.tmod bt170.1 a1, bt170.2.1, bt170.2.2)))) else ((spec_l1Byte.f s0_0 s0_1 s0_2).bind fun bt173 => ((spec_l1Byte.f s0_0 bt173.2.1 bt173.2.2).bind fun bt176 => ((spec_l1Byte.f s0_0 bt176.2.1 bt176.2.2).bind fun bt179 => ((spec_l1Byte.f s0_0 bt179.2.1 bt179.2.2).bind fun bt182 => (if a1 = 0 then (none) else (some (Int.tmod (wrap64 ((wrap64 ((wrap64 ((wrap64 (bt173.1 * 16777216)) + (wrap64 (bt176.1 * 65536)))) + (wrap64 (bt179.1 * 256)))) + bt182.1)) a1, bt182.2.1, bt182.2.2))))))))) = some (r1, r2, r3) := h
 clear h
 by_cases c3 : a1 ≤ 0
 {
 rw [if_pos c3] at H
 have c3b0 := decide_eq_true c3
 clear c3
 simp only [Option.some.injEq, Prod.mk.injEq] at H
 obtain ⟨rfl, rfl, rfl⟩ := H
 go_enter Tryd.func32, Tryd.ntmps32
 go_wp2
 go_ret
 exact ⟨eR_, is72_ HI0, bwg_ HB (IsS72.ge HI0.out), kb_ HK⟩}
 {
 rw [if_neg c3] at H
 have c3b0 := decide_eq_false c3
 clear c3
 by_cases c4 : a1 ≤ 256
 {
 rw [if_pos c4] at H
 have c4b0 := decide_eq_true c4
 clear c4
 replace H := Option.bind_eq_some_iff.mp H
 obtain ⟨⟨t170, t171, t172⟩, A50, H⟩ := H
 have A5 := Aside0.mk A50
 clear A50
 by_cases c6 : a1 = 0
 {
 rw [if_pos c6] at H
 exact absurd H (by simp)}
 {
 rw [if_neg c6] at H
 have c6b0 : (a1 == 0) = false := beq_eq_false_iff_ne.mpr c6
 have c6b1 : (a1 != 0) = true := bne_iff_ne.mpr c6
 simp only [Option.some.injEq, Prod.mk.injEq] at H
 obtain ⟨rfl, rfl, rfl⟩ := H
 go_enter Tryd.func32, Tryd.ntmps32
 go_wp2_with (first | ((with_reducible refine gate_callee (f := 55) rfl ?_); refine gL_ (some 14) Tryd.func55 #[.pointer (some ⟨g, 0, none⟩)] ?_; (with_reducible refine (spec_l1Byte.calls g s0_0 s0_1 s0_2 t170 t171 t172 w0 _ ?side1 ?side2 A5.out).mono ?_); (case side1 => exact is72_ HI0); (case side2 => repeat (first | (with_reducible first | exact HB.out | apply below_alloc | apply pw_below_drewN | apply below_drew1 | refine below_set ?_ (IsS72.ge HI0.out)) | exact HB.out)); rintro e w7 ⟨rfl, hi, hb, hk⟩; refine ⟨_, rfl, ?_⟩; replace HK := Aside0.mk (KeepBut.trans (kb_ HK) hk (.inl rfl)); replace HB := Aside0.mk (hb); replace HI0 := Aside0.mk (hi); clear hb hk hi))
 go_ret
 exact ⟨eR_, is72_ HI0, bwg_ HB (IsS72.ge HI0.out), kb_ HK⟩}}
 {
 rw [if_neg c4] at H
 have c4b0 := decide_eq_false c4
 clear c4
 replace H := Option.bind_eq_some_iff.mp H
 obtain ⟨⟨t173, t174, t175⟩, A80, H⟩ := H
 have A8 := Aside0.mk A80
 clear A80
 replace H := Option.bind_eq_some_iff.mp H
 obtain ⟨⟨t176, t177, t178⟩, A90, H⟩ := H
 have A9 := Aside0.mk A90
 clear A90
 replace H := Option.bind_eq_some_iff.mp H
 obtain ⟨⟨t179, t180, t181⟩, A100, H⟩ := H
 have A10 := Aside0.mk A100
 clear A100
 replace H := Option.bind_eq_some_iff.mp H
 obtain ⟨⟨t182, t183, t184⟩, A110, H⟩ := H
 have A11 := Aside0.mk A110
 clear A110
 by_cases c12 : a1 = 0
 {
 rw [if_pos c12] at H
 exact absurd H (by simp)}
 {
 rw [if_neg c12] at H
 have c12b0 : (a1 == 0) = false := beq_eq_false_iff_ne.mpr c12
 have c12b1 : (a1 != 0) = true := bne_iff_ne.mpr c12
 simp only [Option.some.injEq, Prod.mk.injEq] at H
 obtain ⟨rfl, rfl, rfl⟩ := H
 go_enter Tryd.func32, Tryd.ntmps32
 go_wp2_with (first | ((with_reducible refine gate_callee (f := 55) rfl ?_); refine gL_ (some 18) Tryd.func55 #[.pointer (some ⟨g, 0, none⟩)] ?_; (with_reducible refine (spec_l1Byte.calls g s0_0 s0_1 s0_2 t173 t174 t175 w0 _ ?side1 ?side2 A8.out).mono ?_); (case side1 => exact is72_ HI0); (case side2 => repeat (first | (with_reducible first | exact HB.out | apply below_alloc | apply pw_below_drewN | apply below_drew1 | refine below_set ?_ (IsS72.ge HI0.out)) | exact HB.out)); rintro e w13 ⟨rfl, hi, hb, hk⟩; refine ⟨_, rfl, ?_⟩; replace HK := Aside0.mk (KeepBut.trans (kb_ HK) hk (.inl rfl)); replace HB := Aside0.mk (hb); replace HI0 := Aside0.mk (hi); clear hb hk hi) | ((with_reducible refine gate_callee (f := 55) rfl ?_); refine gL_ (some 20) Tryd.func55 #[.pointer (some ⟨g, 0, none⟩)] ?_; (with_reducible refine (spec_l1Byte.calls g s0_0 t174 t175 t176 t177 t178 w0 _ ?side1 ?side2 A9.out).mono ?_); (case side1 => exact is72_ HI0); (case side2 => repeat (first | (with_reducible first | exact HB.out | apply below_alloc | apply pw_below_drewN | apply below_drew1 | refine below_set ?_ (IsS72.ge HI0.out)) | exact HB.out)); rintro e w14 ⟨rfl, hi, hb, hk⟩; refine ⟨_, rfl, ?_⟩; replace HK := Aside0.mk (KeepBut.trans (kb_ HK) hk (.inl rfl)); replace HB := Aside0.mk (hb); replace HI0 := Aside0.mk (hi); clear hb hk hi) | ((with_reducible refine gate_callee (f := 55) rfl ?_); refine gL_ (some 22) Tryd.func55 #[.pointer (some ⟨g, 0, none⟩)] ?_; (with_reducible refine (spec_l1Byte.calls g s0_0 t177 t178 t179 t180 t181 w0 _ ?side1 ?side2 A10.out).mono ?_); (case side1 => exact is72_ HI0); (case side2 => repeat (first | (with_reducible first | exact HB.out | apply below_alloc | apply pw_below_drewN | apply below_drew1 | refine below_set ?_ (IsS72.ge HI0.out)) | exact HB.out)); rintro e w15 ⟨rfl, hi, hb, hk⟩; refine ⟨_, rfl, ?_⟩; replace HK := Aside0.mk (KeepBut.trans (kb_ HK) hk (.inl rfl)); replace HB := Aside0.mk (hb); replace HI0 := Aside0.mk (hi); clear hb hk hi) | ((with_reducible refine gate_callee (f := 55) rfl ?_); refine gL_ (some 24) Tryd.func55 #[.pointer (some ⟨g, 0, none⟩)] ?_; (with_reducible refine (spec_l1Byte.calls g s0_0 t180 t181 t182 t183 t184 w0 _ ?side1 ?side2 A11.out).mono ?_); (case side1 => exact is72_ HI0); (case side2 => repeat (first | (with_reducible first | exact HB.out | apply below_alloc | apply pw_below_drewN | apply below_drew1 | refine below_set ?_ (IsS72.ge HI0.out)) | exact HB.out)); rintro e w16 ⟨rfl, hi, hb, hk⟩; refine ⟨_, rfl, ?_⟩; replace HK := Aside0.mk (KeepBut.trans (kb_ HK) hk (.inl rfl)); replace HB := Aside0.mk (hb); replace HI0 := Aside0.mk (hi); clear hb hk hi))
 go_ret
 exact ⟨eR_, is72_ HI0, bwg_ HB (IsS72.ge HI0.out), kb_ HK⟩}}}
def spec_l1Once.f (s0_0 : List Int) (s0_1 : Int) (s0_2 : Int) (a1 : Int) : Option (Bool × Int × Int) := (spec_l1Below.f s0_0 s0_1 s0_2 a1).bind fun bt185 => (some ((bt185.1 == 0), bt185.2.1, bt185.2.2))
theorem spec_l1Once.calls (g : Nat) (s0_0 : List Int) (s0_1 : Int) (s0_2 : Int) (a1 : Int) (r1 : Bool) (r2 : Int) (r3 : Int) (w0 w : World) (hI : IsS72 w0 w g s0_0 s0_1 s0_2) (hB : Below w0.heap.size w0 w) (h : spec_l1Once.f s0_0 s0_1 s0_2 a1 = some (r1, r2, r3)) :
 Calls Tryd.prog 47 #[.pointer (some ⟨g, 0, none⟩), .int .i64 a1] w fun e w' => e = .returned (.bool r1) ∧ IsS72 w0 w' g s0_0 r2 r3 ∧ Below w0.heap.size w0 w' ∧ KeepBut w w' g none := by
 have HI0 := Aside0.mk hI
 have HK := Aside0.mk (KeepBut.refl w g none)
 have HL := Aside0.mk hB.size
 clear hI
 have HW0 := Aside0.mk hB.size
 have HB := Aside0.mk hB
 clear hB
 have H : ((spec_l1Below.f s0_0 s0_1 s0_2 a1).bind fun bt185 => (some ((bt185.1 == 0), bt185.2.1, bt185.2.2))) = some (r1, r2, r3) := h
 clear h
 replace H := Option.bind_eq_some_iff.mp H
 obtain ⟨⟨t185, t186, t187⟩, A30, H⟩ := H
 have A3 := Aside0.mk A30
 clear A30
 simp only [Option.some.injEq, Prod.mk.injEq] at H
 obtain ⟨rfl, rfl, rfl⟩ := H
 go_enter Tryd.func47, Tryd.ntmps47
 go_wp2_with (first | ((with_reducible refine gate_callee (f := 32) rfl ?_); refine gL_ (some 7) Tryd.func32 #[.pointer (some ⟨g, 0, none⟩), .int .i64 a1] ?_; (with_reducible refine (spec_l1Below.calls g s0_0 s0_1 s0_2 a1 t185 t186 t187 w0 _ ?side1 ?side2 A3.out).mono ?_); (case side1 => exact is72_ HI0); (case side2 => repeat (first | (with_reducible first | exact HB.out | apply below_alloc | apply pw_below_drewN | apply below_drew1 | refine below_set ?_ (IsS72.ge HI0.out)) | exact HB.out)); rintro e w4 ⟨rfl, hi, hb, hk⟩; refine ⟨_, rfl, ?_⟩; replace HK := Aside0.mk (KeepBut.trans (kb_ HK) hk (.inl rfl)); replace HB := Aside0.mk (hb); replace HI0 := Aside0.mk (hi); clear hb hk hi))
 go_ret
 exact ⟨eR_, is72_ HI0, bwg_ HB (IsS72.ge HI0.out), kb_ HK⟩
def spec_l10DrawPath.f (s0_0 : List Int) (s0_1 : Int) (s0_2 : Int) : Option (ByteArray × Int × Int) := (some (([(⟨#[98, 105, 110]⟩ : ByteArray), (⟨#[98, 105, 110, 47, 97]⟩ : ByteArray), (⟨#[98, 105, 110, 47, 98]⟩ : ByteArray), (⟨#[108, 105, 98]⟩ : ByteArray), (⟨#[108, 105, 98, 47, 120, 46, 115, 111]⟩ : ByteArray), (⟨#[100, 111, 99]⟩ : ByteArray), (⟨#[100, 111, 99, 47, 97]⟩ : ByteArray), (⟨#[100, 111, 99, 47, 97, 47, 98]⟩ : ByteArray), (⟨#[102]⟩ : ByteArray), (⟨#[103, 45, 49]⟩ : ByteArray)] : List ByteArray) : List ByteArray)).bind fun y188 => ((spec_l1Below.f s0_0 s0_1 s0_2 10).bind fun bt191 => (if 0 ≤ bt191.1 then (if bt191.1 < (y188.length : Int) then (some (rdOf ByteArray.empty y188 bt191.1, bt191.2.1, bt191.2.2)) else (none)) else (none)))
theorem spec_l10DrawPath.calls (g : Nat) (s0_0 : List Int) (s0_1 : Int) (s0_2 : Int) (r1 : ByteArray) (r2 : Int) (r3 : Int) (w0 w : World) (hI : IsS72 w0 w g s0_0 s0_1 s0_2) (hB : Below w0.heap.size w0 w) (h : spec_l10DrawPath.f s0_0 s0_1 s0_2 = some (r1, r2, r3)) :
 Calls Tryd.prog 49 #[.pointer (some ⟨g, 0, none⟩)] w fun e w' => e = .returned (.string r1) ∧ IsS72 w0 w' g s0_0 r2 r3 ∧ Below w0.heap.size w0 w' ∧ KeepBut w w' g none := by
 have HI0 := Aside0.mk hI
 have HK := Aside0.mk (KeepBut.refl w g none)
 have HL := Aside0.mk hB.size
 clear hI
 have HW0 := Aside0.mk hB.size
 have HB := Aside0.mk hB
 clear hB
 have H : ((some (([(⟨#[98, 105, 110]⟩ : ByteArray), (⟨#[98, 105, 110, 47, 97]⟩ : ByteArray), (⟨#[98, 105, 110, 47, 98]⟩ : ByteArray), (⟨#[108, 105, 98]⟩ : ByteArray), (⟨#[108, 105, 98, 47, 120, 46, 115, 111]⟩ : ByteArray), (⟨#[100, 111, 99]⟩ : ByteArray), (⟨#[100, 111, 99, 47, 97]⟩ : ByteArray), (⟨#[100, 111, 99, 47, 97, 47, 98]⟩ : ByteArray), (⟨#[102]⟩ : ByteArray), (⟨#[103, 45, 49]⟩ : ByteArray)] : List ByteArray) : List ByteArray)).bind fun y188 => ((spec_l1Below.f s0_0 s0_1 s0_2 10).bind fun bt191 => (if 0 ≤ bt191.1 then (if bt191.1 < (y188.length : Int) then (some (rdOf ByteArray.empty y188 bt191.1, bt191.2.1, bt191.2.2)) else (none)) else (none)))) = some (r1, r2, r3) := h
 clear h
 obtain ⟨y188, hy188⟩ : ∃ y_ : List ByteArray, y_ = (([(⟨#[98, 105, 110]⟩ : ByteArray), (⟨#[98, 105, 110, 47, 97]⟩ : ByteArray), (⟨#[98, 105, 110, 47, 98]⟩ : ByteArray), (⟨#[108, 105, 98]⟩ : ByteArray), (⟨#[108, 105, 98, 47, 120, 46, 115, 111]⟩ : ByteArray), (⟨#[100, 111, 99]⟩ : ByteArray), (⟨#[100, 111, 99, 47, 97]⟩ : ByteArray), (⟨#[100, 111, 99, 47, 97, 47, 98]⟩ : ByteArray), (⟨#[102]⟩ : ByteArray), (⟨#[103, 45, 49]⟩ : ByteArray)] : List ByteArray)) := ⟨_, rfl⟩
 replace H : ((spec_l1Below.f s0_0 s0_1 s0_2 10).bind fun bt191 => (if 0 ≤ bt191.1 then (if bt191.1 < (y188.length : Int) then (some (rdOf ByteArray.empty y188 bt191.1, bt191.2.1, bt191.2.2)) else (none)) else (none))) = some (r1, r2, r3) := rH_ hy188 H
 have Ny188 := Aside0.mk hy188
 clear hy188
 replace H := Option.bind_eq_some_iff.mp H
 obtain ⟨⟨t191, t192, t193⟩, A20, H⟩ := H
 have A2 := Aside0.mk A20
 clear A20
 by_cases c3 : 0 ≤ t191
 {
 rw [if_pos c3] at H
 have c3b0 := decide_eq_true c3
 clear c3
 by_cases c4 : t191 < (y188.length : Int)
 {
 rw [if_pos c4] at H
 have c4b0 := decide_eq_true c4
 clear c4
 simp only [Option.some.injEq, Prod.mk.injEq] at H
 obtain ⟨rfl, rfl, rfl⟩ := H
 go_enter Tryd.func49, Tryd.ntmps49
 go_wp2_with (first | ((with_reducible refine gate_dst (N := 3) rfl ?_); refine Kd.R_lit Kd.string _ 9 ?hg (N := 3) ?hd (xs := ([(⟨#[98, 105, 110]⟩ : ByteArray), (⟨#[98, 105, 110, 47, 97]⟩ : ByteArray), (⟨#[98, 105, 110, 47, 98]⟩ : ByteArray), (⟨#[108, 105, 98]⟩ : ByteArray), (⟨#[108, 105, 98, 47, 120, 46, 115, 111]⟩ : ByteArray), (⟨#[100, 111, 99]⟩ : ByteArray), (⟨#[100, 111, 99, 47, 97]⟩ : ByteArray), (⟨#[100, 111, 99, 47, 97, 47, 98]⟩ : ByteArray), (⟨#[102]⟩ : ByteArray), (⟨#[103, 45, 49]⟩ : ByteArray)] : List ByteArray)) (inner := [.string (⟨#[98, 105, 110]⟩ : ByteArray), .string (⟨#[98, 105, 110, 47, 97]⟩ : ByteArray), .string (⟨#[98, 105, 110, 47, 98]⟩ : ByteArray), .string (⟨#[108, 105, 98]⟩ : ByteArray), .string (⟨#[108, 105, 98, 47, 120, 46, 115, 111]⟩ : ByteArray), .string (⟨#[100, 111, 99]⟩ : ByteArray), .string (⟨#[100, 111, 99, 47, 97]⟩ : ByteArray), .string (⟨#[100, 111, 99, 47, 97, 47, 98]⟩ : ByteArray), .string (⟨#[102]⟩ : ByteArray), .string (⟨#[103, 45, 49]⟩ : ByteArray)]) (ok := fun _ => True) (okp := fun _ => True) ?hr ?hp (fun _ hk => hk) trivial (Below.refl _ _) (Nat.le_refl _) (by simp) ?_; (case hd => rfl); (case hg => rfl); (case hr => first | (go_simp; done) | (go_simp; rfl)); (case hp => exact (Reps.one (show Kd.M Kd.string _ _ _ (⟨#[98, 105, 110]⟩ : ByteArray) [.string (⟨#[98, 105, 110]⟩ : ByteArray)] from rfl) (Reps.one (show Kd.M Kd.string _ _ _ (⟨#[98, 105, 110, 47, 97]⟩ : ByteArray) [.string (⟨#[98, 105, 110, 47, 97]⟩ : ByteArray)] from rfl) (Reps.one (show Kd.M Kd.string _ _ _ (⟨#[98, 105, 110, 47, 98]⟩ : ByteArray) [.string (⟨#[98, 105, 110, 47, 98]⟩ : ByteArray)] from rfl) (Reps.one (show Kd.M Kd.string _ _ _ (⟨#[108, 105, 98]⟩ : ByteArray) [.string (⟨#[108, 105, 98]⟩ : ByteArray)] from rfl) (Reps.one (show Kd.M Kd.string _ _ _ (⟨#[108, 105, 98, 47, 120, 46, 115, 111]⟩ : ByteArray) [.string (⟨#[108, 105, 98, 47, 120, 46, 115, 111]⟩ : ByteArray)] from rfl) (Reps.one (show Kd.M Kd.string _ _ _ (⟨#[100, 111, 99]⟩ : ByteArray) [.string (⟨#[100, 111, 99]⟩ : ByteArray)] from rfl) (Reps.one (show Kd.M Kd.string _ _ _ (⟨#[100, 111, 99, 47, 97]⟩ : ByteArray) [.string (⟨#[100, 111, 99, 47, 97]⟩ : ByteArray)] from rfl) (Reps.one (show Kd.M Kd.string _ _ _ (⟨#[100, 111, 99, 47, 97, 47, 98]⟩ : ByteArray) [.string (⟨#[100, 111, 99, 47, 97, 47, 98]⟩ : ByteArray)] from rfl) (Reps.one (show Kd.M Kd.string _ _ _ (⟨#[102]⟩ : ByteArray) [.string (⟨#[102]⟩ : ByteArray)] from rfl) (Reps.one (show Kd.M Kd.string _ _ _ (⟨#[103, 45, 49]⟩ : ByteArray) [.string (⟨#[103, 45, 49]⟩ : ByteArray)] from rfl) (Reps.none _ _)))))))))))); intro v189 w5 ho6 hb hg_ hnew_; clear hg_ hnew_; (first | rw [← Ny188.out] at ho6 | (simp only [Int.reduceToNat] at ho6; rw [← Ny188.out] at ho6)); have HO190 := Aside0.mk (Kd.R_lower ho6 (keep_size (w := w) (g := g) (row := none) (kb_ HK))); replace HK := Aside0.mk (KeepBut.trans (kb_ HK) (KeepBut.of_below hb g none) (.inl rfl)); replace HB := Aside0.mk (below_step (bwg_ HB (IsS72.ge HI0.out)) hb); replace HI0 := Aside0.mk (IsS72.below (is72_ HI0) hb); clear hb ho6) | ((with_reducible refine gate_callee (f := 32) rfl ?_); refine gL_ (some 5) Tryd.func32 #[.pointer (some ⟨g, 0, none⟩), .int .i64 10] ?_; (with_reducible refine (spec_l1Below.calls g s0_0 s0_1 s0_2 10 t191 t192 t193 w0 _ ?side1 ?side2 A2.out).mono ?_); (case side1 => exact is72_ HI0); (case side2 => repeat (first | (with_reducible first | exact HB.out | apply below_alloc | apply pw_below_drewN | apply below_drew1 | refine below_set ?_ (IsS72.ge HI0.out)) | exact HB.out)); rintro e w7 ⟨rfl, hi, hb, hk⟩; refine ⟨_, rfl, ?_⟩; replace HO190 := Aside0.mk (Kd.R_mono (Kd.R_keep (IsS72.apart (show IsS72 w0 _ g s0_0 s0_1 s0_2 from is72_ HI0) (kr_ HO190) (by decide)) hk (fun _ h => h.2)) (fun _ h => h.1)); replace HK := Aside0.mk (KeepBut.trans (kb_ HK) hk (.inl rfl)); replace HB := Aside0.mk (hb); replace HI0 := Aside0.mk (hi); clear hb hk hi; obtain ⟨Ao8, co8, eo8⟩ := Kd.R_slice HO190.out; subst eo8; have p194 : 0 ≤ (t191 : Int) := dA_; have q194 : t191 < (y188.length : Int) := dA_; obtain ⟨ad194, e194, hx194_0⟩ := Kd.at_string (Kd.R_reads' HO190.out).2.2 t191 p194 q194; cases e194; replace p194 := eq_true p194; replace q194 := eq_true q194))
 go_ret
 exact ⟨eR_, is72_ HI0, bwg_ HB (IsS72.ge HI0.out), kb_ HK⟩}
 {
 rw [if_neg c4] at H
 exact absurd H (by simp)}}
 {
 rw [if_neg c3] at H
 exact absurd H (by simp)}
def spec_l1Some.l0 : Nat → Int → List Int → Int → List Int → Int → Int → Option (List Int × Int × Int)
 | 0, _, _, _, _, _, _ => none
 | k + 1, x1, x5, x6, x1000, x1001, x1002 => if x6 < x1 then ((spec_l1Below.f x1000 x1001 x1002 256).bind fun bt198 => (if x5.length < 140737488355328 then (spec_l1Some.l0 k x1 (x5 ++ [(bt198.1) % 256]) (wrap64 (x6 + 1)) x1000 bt198.2.1 bt198.2.2) else (none))) else (some (x5, x1001, x1002))
def spec_l1Some.f (k : Nat) (s0_0 : List Int) (s0_1 : Int) (s0_2 : Int) (a1 : Int) : Option (List Int × Int × Int) := spec_l1Some.l0 k a1 (([] : List Int)) 0 s0_0 s0_1 s0_2
theorem spec_l1Some.calls (k : Nat) (g : Nat) (s0_0 : List Int) (s0_1 : Int) (s0_2 : Int) (a1 : Int) (r1 : List Int) (r2 : Int) (r3 : Int) (w0 w : World) (hI : IsS72 w0 w g s0_0 s0_1 s0_2) (hB : Below w0.heap.size w0 w) (h : spec_l1Some.f k s0_0 s0_1 s0_2 a1 = some (r1, r2, r3)) :
 Calls Tryd.prog 64 #[.pointer (some ⟨g, 0, none⟩), .int .i64 a1] w fun e w' => ∃ v0_ : Value, e = .returned (v0_) ∧ Kd.R (Kd.int .u8) 5 w' w.heap.size (fun _ => True) v0_ r1 ∧ IsS72 w0 w' g s0_0 r2 r3 ∧ Below w0.heap.size w0 w' ∧ KeepBut w w' g none := by
 have HI0 := Aside0.mk hI
 have HK := Aside0.mk (KeepBut.refl w g none)
 have HL := Aside0.mk hB.size
 clear hI
 have HW0 := Aside0.mk hB.size
 have HB := Aside0.mk hB
 clear hB
 have H : (spec_l1Some.l0 k a1 (([] : List Int)) 0 s0_0 s0_1 s0_2) = some (r1, r2, r3) := h
 clear h
 obtain ⟨y195, hy195⟩ : ∃ y_ : List Int, y_ = (([] : List Int)) := ⟨_, rfl⟩
 replace H : (spec_l1Some.l0 k a1 y195 0 s0_0 s0_1 s0_2) = some (r1, r2, r3) := rH_ hy195 H
 have Ny195 := Aside0.mk hy195
 clear hy195
 have H' := Aside0.mk H
 clear H
 go_enter Tryd.func64, Tryd.ntmps64
 go_wp2_with (first | ((with_reducible refine gate_dst (N := 8) rfl ?_); refine Kd.R_lit (Kd.int .u8) _ 5 ?hg (N := 8) ?hd (xs := ([] : List Int)) (inner := []) (ok := fun _ => True) (okp := fun _ => True) ?hr ?hp (fun _ hk => hk) trivial (Below.refl _ _) (Nat.le_refl _) (by simp) ?_; (case hd => rfl); (case hg => rfl); (case hr => first | (go_simp; done) | (go_simp; rfl)); (case hp => exact (Reps.none _ _)); intro v196 w3 ho4 hb hg_ hnew_; clear hg_ hnew_; (first | rw [← Ny195.out] at ho4 | (simp only [Int.reduceToNat] at ho4; rw [← Ny195.out] at ho4)); have HO197 := Aside0.mk (Kd.R_lower ho4 (keep_size (w := w) (g := g) (row := none) (kb_ HK))); replace HK := Aside0.mk (KeepBut.trans (kb_ HK) (KeepBut.of_below hb g none) (.inl rfl)); replace HB := Aside0.mk (below_step (bwg_ HB (IsS72.ge HI0.out)) hb); replace HI0 := Aside0.mk (IsS72.below (is72_ HI0) hb); clear hb ho4))
 go_loopg [5, 6] k (fun kq v5 v6 w' => ∃ (x5_1 : List Int) (x6_1 : Int) (x1001_1 : Int) (x1002_1 : Int), v6 = .int .i64 x6_1 ∧ Aside0 (spec_l1Some.l0 kq a1 x5_1 x6_1 s0_0 x1001_1 x1002_1 = some (r1, r2, r3)) ∧ Aside0 (kq ≤ k) ∧ Aside0 (Kd.R (Kd.int .u8) 5 w' w.heap.size (fun _ => True) v5 x5_1) ∧ Aside0 (IsS72 w0 w' g s0_0 x1001_1 x1002_1) ∧ Aside0 (KeepBut w w' g none) ∧ Aside0 (Below w0.heap.size w0 w'))
 case atStart => exact ⟨(y195), (0), (s0_1), (s0_2), (by first | rfl | (simp; done) | (simp [*]; done)), H', ⟨Nat.le_refl _⟩, ⟨kr_ HO197⟩, ⟨is72_ HI0⟩, ⟨kb_ HK⟩, ⟨bwg_ HB (IsS72.ge HI0.out)⟩⟩
 case round =>
  clear H'
  try clear p2
  obtain ⟨x5_1, x6_1, x1001_1, x1002_1, rfl, HA, HK1, HO_5, HI0, HK, HB⟩ := hrel
  cases gk with
  | zero => exact absurd HA.out (by simp [spec_l1Some.l0])
  | succ k1 =>
   have H := HA.out
   clear HA
   simp only [spec_l1Some.l0] at H
   by_cases c5 : x6_1 < a1
   {
   rw [if_pos c5] at H
   have c5b0 := decide_eq_true c5
   clear c5
   replace H := Option.bind_eq_some_iff.mp H
   obtain ⟨⟨t198, t199, t200⟩, A60, H⟩ := H
   have A6 := Aside0.mk A60
   clear A60
   by_cases c7 : x5_1.length < 140737488355328
   {
   rw [if_pos c7] at H
   have LMc7 := Aside0.mk c7
   clear c7
   obtain ⟨y201, hy201⟩ : ∃ y_ : List Int, y_ = (x5_1 ++ [(t198) % 256]) := ⟨_, rfl⟩
   replace H : (spec_l1Some.l0 k1 a1 y201 (wrap64 (x6_1 + 1)) s0_0 t199 t200) = some (r1, r2, r3) := rH_ hy201 H
   have Ny201 := Aside0.mk hy201
   clear hy201
   have H' := Aside0.mk H
   clear H
   go_wp2_with (first | ((with_reducible refine gate_callee (f := 32) rfl ?_); refine gL_ (some 15) Tryd.func32 #[.pointer (some ⟨g, 0, none⟩), .int .i64 256] ?_; (with_reducible refine (spec_l1Below.calls g s0_0 x1001_1 x1002_1 256 t198 t199 t200 w0 _ ?side1 ?side2 A6.out).mono ?_); (case side1 => exact is72_ HI0); (case side2 => repeat (first | (with_reducible first | exact HB.out | apply below_alloc | apply pw_below_drewN | apply below_drew1 | refine below_set ?_ (IsS72.ge HI0.out)) | exact HB.out)); rintro e w8 ⟨rfl, hi, hb, hk⟩; refine ⟨_, rfl, ?_⟩; replace HO_5 := Aside0.mk (Kd.R_mono (Kd.R_keep (IsS72.apart (show IsS72 w0 _ g s0_0 x1001_1 x1002_1 from is72_ HI0) (kr_ HO_5) (by decide)) hk (fun _ h => h.2)) (fun _ h => h.1)); replace HK := Aside0.mk (KeepBut.trans (kb_ HK) hk (.inl rfl)); replace HB := Aside0.mk (hb); replace HI0 := Aside0.mk (hi); clear hb hk hi) | ((with_reducible refine gate_builtin (b := .append) (xs := #[.tmp 16, .tmp 19]) rfl ?_); at_builtin; refine Kd.R_append (Kd.int .u8) w.heap.size rfl (.tmp 16) (.tmp 19) 22 5 (.int .u8 0) 1 rfl Tryd.underlying22 info5 rfl (by decide) (by omega) u5 x5_1 ((t198) % 256) [.int .u8 ((t198) % 256)] (fun _ => True) (fun _ => False) rfl rfl ?aP (fun _ hk => hk.elim) ?aF ?aO (Below.refl _ _) ?aS ?aL ?_; (case aP => exact rfl); (case aF => exact (fun _ _ => trivial)); (case aO => exact (kr_ HO_5)); (case aS => exact (keep_size (w := w) (g := g) (row := none) (kb_ HK))); (case aL => have := LMc7.out; omega); intro v202 w9 ho hb hg hat; rw [← Ny201.out] at ho; replace HB := Aside0.mk (below_weaken (bwg_ HB (IsS72.ge HI0.out)) HL.out hb); replace HI0 := Aside0.mk (IsS72.grown (is72_ HI0) hg (IsS72.own_ne HI0.out HO_5.out (by decide))); replace HK := Aside0.mk (KeepBut.trans (kb_ HK) (KeepBut.of_grown hg g) (Kd.R_base2 HO_5.out)); have HO203 := Aside0.mk (ho); clear HO_5; clear ho hb hg hat))
   go_roundg k1
   case measure => have := HK1.out; omega
   case rel => exact ⟨(y201), (wrap64 (x6_1 + 1)), (t199), (t200), (by first | rfl | (simp; done) | (simp [*]; done)), H', ⟨by have := HK1.out; omega⟩, ⟨kr_ HO203⟩, ⟨is72_ HI0⟩, ⟨kb_ HK⟩, ⟨bwg_ HB (IsS72.ge HI0.out)⟩⟩}
   {
   rw [if_neg c7] at H
   exact absurd H (by simp)}}
   {
   rw [if_neg c5] at H
   have c5b0 := decide_eq_false c5
   clear c5
   simp only [Option.some.injEq, Prod.mk.injEq] at H
   obtain ⟨rfl, rfl, rfl⟩ := H
   go_wp2
   go_ret
   exact ⟨_, eR_, kr_ HO_5, is72_ HI0, bwg_ HB (IsS72.ge HI0.out), kb_ HK⟩
}
mutual
def spec_Sum.l0 : Nat → List Int → Int → Int → Option (Int)
 | 0, _, _, _ => none
 | k + 1, x0, x3, x4 => if x4 < (x0.length : Int) then (if 0 ≤ x4 then (spec_Sum.l0 k x0 (IntKind.u64.wrap ((Go.bits .xor .u64 x3 (IntKind.u64.wrap (rd x0 x4))) * 1099511628211)) (wrap64 (x4 + 1))) else (none)) else (spec_Sum.l1 k x3 0)
def spec_Sum.l1 : Nat → Int → Int → Option (Int)
 | 0, _, _ => none
 | k + 1, x3, x5 => if x5 < 3 then (spec_Sum.l1 k (IntKind.u64.wrap ((Go.bits .xor .u64 x3 (x3 / 536870912)) * 11400714819323198485)) (wrap64 (x5 + 1))) else (some (Go.bits .xor .u64 x3 (x3 / 4294967296)))
end
def spec_Sum.f (k : Nat) (l0 : List Int) : Option (Int) := spec_Sum.l0 k l0 14695981039346656037 0
theorem spec_Sum.calls (k : Nat) (A0 : Option Addr) (c0 : Nat) (l0 : List Int) (r : Int) (w : World) (hr0 : Kd.C (Kd.int .u8) w A0 l0.length l0) (hc0 : l0.length ≤ c0) (h : spec_Sum.f k l0 = some r) :
 Calls Tryd.prog 83 #[.slice A0 l0.length c0] w fun e w' => e = .returned (.int .u64 r) ∧ Drawn0 w w' := by
 have HR0 := Aside0.mk hr0
 have HC0 := Aside0.mk hc0
 clear hr0 hc0
 have H : (spec_Sum.l0 k l0 14695981039346656037 0) = some r := h
 clear h
 have H' := Aside0.mk H
 clear H
 go_enter Tryd.func83, Tryd.ntmps83
 go_wp2
 go_loopg [3, 4] k (fun kq v3 v4 w' => ∃ (x3_1 : Int) (x4_1 : Int), v3 = .int .u64 x3_1 ∧ v4 = .int .i64 x4_1 ∧ Aside0 (spec_Sum.l0 kq l0 x3_1 x4_1 = some r) ∧ Aside0 (kq ≤ k) ∧ Drawn0 w w')
 case atStart => exact ⟨(14695981039346656037), (0), (by first | rfl | (simp; done) | (simp [*]; done)), (by first | rfl | (simp; done) | (simp [*]; done)), H', ⟨Nat.le_refl _⟩, dR_⟩
 case round =>
  clear H'
  obtain ⟨x3_1, x4_1, rfl, rfl, HA, HK1, ⟨m1, rfl⟩⟩ := hrel
  cases gk with
  | zero => exact absurd HA.out (by simp [spec_Sum.l0])
  | succ k1 =>
   have H := HA.out
   clear HA
   simp only [spec_Sum.l0] at H
   by_cases c2 : x4_1 < (l0.length : Int)
   {
   rw [if_pos c2] at H
   have c2b0 := decide_eq_true c2
   clear c2
   by_cases c3 : 0 ≤ x4_1
   {
   rw [if_pos c3] at H
   have c3b0 := decide_eq_true c3
   clear c3
   have H' := Aside0.mk H
   clear H
   have p204 : 0 ≤ (x4_1 : Int) := dA_
   have q204 : x4_1 < (l0.length : Int) := dA_
   obtain ⟨ad204, e204, hx204_0⟩ := Kd.at_int HR0.out x4_1 p204 q204
   cases e204
   replace p204 := eq_true p204
   replace q204 := eq_true q204
   go_wp2
   go_roundg k1
   case measure => have := HK1.out; omega
   case rel => exact ⟨(IntKind.u64.wrap ((Go.bits .xor .u64 x3_1 (IntKind.u64.wrap (rd l0 x4_1))) * 1099511628211)), (wrap64 (x4_1 + 1)), (by first | rfl | (simp; done) | (simp [*]; done)), (by first | rfl | (simp; done) | (simp [*]; done)), H', ⟨by have := HK1.out; omega⟩, dR_⟩}
   {
   rw [if_neg c3] at H
   exact absurd H (by simp)}}
   {
   rw [if_neg c2] at H
   have c2b0 := decide_eq_false c2
   clear c2
   have H' := Aside0.mk H
   clear H
   go_wp2
   go_loopg [3, 5] k1 (fun kq v3 v5 w' => ∃ (x3_2 : Int) (x5_2 : Int), v3 = .int .u64 x3_2 ∧ v5 = .int .i64 x5_2 ∧ Aside0 (spec_Sum.l1 kq x3_2 x5_2 = some r) ∧ Aside0 (kq ≤ k1) ∧ Drawn0 w w')
   case atStart => exact ⟨(x3_1), (0), (by first | rfl | (simp; done) | (simp [*]; done)), (by first | rfl | (simp; done) | (simp [*]; done)), H', ⟨Nat.le_refl _⟩, dR_⟩
   case round =>
    clear H'
    try clear c2
    try clear c2b0
    try clear p2
    try clear q2
    try clear hx2
    try clear c3
    try clear c3b0
    try clear hx204_0
    try clear p204
    try clear q204
    obtain ⟨x3_2, x5_2, rfl, rfl, HA, HK2, ⟨m2, rfl⟩⟩ := hrel
    cases gk with
    | zero => exact absurd HA.out (by simp [spec_Sum.l1])
    | succ k2 =>
     have H := HA.out
     clear HA
     simp only [spec_Sum.l1] at H
     by_cases c4 : x5_2 < 3
     {
     rw [if_pos c4] at H
     have c4b0 := decide_eq_true c4
     clear c4
     have H' := Aside0.mk H
     clear H
     go_wp2
     go_roundg k2
     case measure => have := HK1.out; have := HK2.out; omega
     case rel => exact ⟨(IntKind.u64.wrap ((Go.bits .xor .u64 x3_2 (x3_2 / 536870912)) * 11400714819323198485)), (wrap64 (x5_2 + 1)), (by first | rfl | (simp; done) | (simp [*]; done)), (by first | rfl | (simp; done) | (simp [*]; done)), H', ⟨by have := HK1.out; have := HK2.out; omega⟩, dR_⟩}
     {
     rw [if_neg c4] at H
     have c4b0 := decide_eq_false c4
     clear c4
     obtain rfl := Option.some.inj H
     go_wp2
     go_ret
     exact ⟨eS_, dR_⟩}}
def spec_Word32.l0 : Nat → Int → List Int → Int → Option (ByteArray)
 | 0, _, _, _ => none
 | k + 1, x0, x3, x4 => if x4 ≥ 0 then (if 0 ≤ (IntKind.u64.wrap (wrap64 (5 * x4))) then (if 0 ≤ (Go.bits .and .u64 (shr .u64 x0 (IntKind.u64.wrap (wrap64 (5 * x4)))) 31) then (if (Go.bits .and .u64 (shr .u64 x0 (IntKind.u64.wrap (wrap64 (5 * x4)))) 31) < 32 then (if x3.length < 140737488355328 then (spec_Word32.l0 k x0 (x3 ++ [bt (⟨#[48, 49, 50, 51, 52, 53, 54, 55, 56, 57, 97, 98, 99, 100, 102, 103, 104, 105, 106, 107, 108, 109, 110, 112, 113, 114, 115, 118, 119, 120, 121, 122]⟩ : ByteArray) (Go.bits .and .u64 (shr .u64 x0 (IntKind.u64.wrap (wrap64 (5 * x4)))) 31)]) (wrap64 (x4 - 1))) else (none)) else (none)) else (none)) else (none)) else (some (strOfNums x3))
def spec_Word32.f (k : Nat) (a0 : Int) : Option (ByteArray) := spec_Word32.l0 k a0 (([] : List Int)) 12
theorem spec_Word32.calls (k : Nat) (a0 : Int) (r : ByteArray) (w : World) (h : spec_Word32.f k a0 = some r) :
 Calls Tryd.prog 82 #[.int .u64 a0] w fun e w' => e = .returned (.string r) ∧ Below w.heap.size w w' := by
 have HB := Aside0.mk (Below.refl w.heap.size w)
 have H : (spec_Word32.l0 k a0 (([] : List Int)) 12) = some r := h
 clear h
 obtain ⟨y205, hy205⟩ : ∃ y_ : List Int, y_ = (([] : List Int)) := ⟨_, rfl⟩
 replace H : (spec_Word32.l0 k a0 y205 12) = some r := rH_ hy205 H
 have Ny205 := Aside0.mk hy205
 clear hy205
 have H' := Aside0.mk H
 clear H
 go_enter Tryd.func82, Tryd.ntmps82
 go_wp2_with (first | ((with_reducible refine gate_dst (N := 5) rfl ?_); refine Kd.R_lit (Kd.int .u8) _ 5 ?hg (N := 5) ?hd (xs := ([] : List Int)) (inner := []) (ok := fun _ => True) (okp := fun _ => True) ?hr ?hp (fun _ hk => hk) trivial (Below.refl _ _) (Nat.le_refl _) (by simp) ?_; (case hd => rfl); (case hg => rfl); (case hr => first | (go_simp; done) | (go_simp; rfl)); (case hp => exact (Reps.none _ _)); intro v206 w2 ho3 hb hg_ hnew_; clear hg_ hnew_; (first | rw [← Ny205.out] at ho3 | (simp only [Int.reduceToNat] at ho3; rw [← Ny205.out] at ho3)); have HO207 := Aside0.mk (Kd.R_lower ho3 (below_size (bw_ HB))); replace HB := Aside0.mk (below_step (bw_ HB) hb); clear hb ho3))
 go_loopg [3, 4] k (fun kq v3 v4 w' => ∃ (x3_1 : List Int) (x4_1 : Int), v4 = .int .i64 x4_1 ∧ Aside0 (spec_Word32.l0 kq a0 x3_1 x4_1 = some r) ∧ Aside0 (kq ≤ k) ∧ Aside0 (Kd.R (Kd.int .u8) 5 w' w.heap.size (fun _ => True) v3 x3_1) ∧ Aside0 (Below w.heap.size w w'))
 case atStart => exact ⟨(y205), (12), (by first | rfl | (simp; done) | (simp [*]; done)), H', ⟨Nat.le_refl _⟩, ⟨kr_ HO207⟩, ⟨bw_ HB⟩⟩
 case round =>
  clear H'
  try clear p2
  obtain ⟨x3_1, x4_1, rfl, HA, HK1, HO_3, HB⟩ := hrel
  cases gk with
  | zero => exact absurd HA.out (by simp [spec_Word32.l0])
  | succ k1 =>
   have H := HA.out
   clear HA
   simp only [spec_Word32.l0] at H
   by_cases c4 : x4_1 ≥ 0
   {
   rw [if_pos c4] at H
   have c4b0 : decide (0 ≤ x4_1) = true := decide_eq_true c4
   clear c4
   obtain ⟨ji5, hji5⟩ : ∃ j_ : Int, (IntKind.u64.wrap (wrap64 (5 * x4_1))) = j_ := ⟨_, rfl⟩
   replace H : (if 0 ≤ (ji5) then (if 0 ≤ (Go.bits .and .u64 (shr .u64 a0 (ji5)) 31) then (if (Go.bits .and .u64 (shr .u64 a0 (ji5)) 31) < 32 then (if x3_1.length < 140737488355328 then (spec_Word32.l0 k1 a0 (x3_1 ++ [bt (⟨#[48, 49, 50, 51, 52, 53, 54, 55, 56, 57, 97, 98, 99, 100, 102, 103, 104, 105, 106, 107, 108, 109, 110, 112, 113, 114, 115, 118, 119, 120, 121, 122]⟩ : ByteArray) (Go.bits .and .u64 (shr .u64 a0 (ji5)) 31)]) (wrap64 (x4_1 - 1))) else (none)) else (none)) else (none)) else (none)) = some r := by first | (rw [hji5] at H; exact H) | (simp only [hji5] at H ⊢; exact H)
   by_cases c6 : 0 ≤ (ji5)
   {
   rw [if_pos c6] at H
   have c6b0 := eq_true c6
   have c6b1 := decide_eq_true c6
   clear c6
   obtain ⟨ji7, hji7⟩ : ∃ j_ : Int, (shr .u64 a0 (ji5)) = j_ := ⟨_, rfl⟩
   replace H : (if 0 ≤ (Go.bits .and .u64 (ji7) 31) then (if (Go.bits .and .u64 (ji7) 31) < 32 then (if x3_1.length < 140737488355328 then (spec_Word32.l0 k1 a0 (x3_1 ++ [bt (⟨#[48, 49, 50, 51, 52, 53, 54, 55, 56, 57, 97, 98, 99, 100, 102, 103, 104, 105, 106, 107, 108, 109, 110, 112, 113, 114, 115, 118, 119, 120, 121, 122]⟩ : ByteArray) (Go.bits .and .u64 (ji7) 31)]) (wrap64 (x4_1 - 1))) else (none)) else (none)) else (none)) = some r := by first | (rw [hji7] at H; exact H) | (simp only [hji7] at H ⊢; exact H)
   have hji7_ : (a0 / 2 ^ min (ji5).toNat 64) = ji7 := hji7
   have hji7z : (ji5) ≤ 64 → (a0 / 2 ^ (ji5).toNat) = ji7 := shr_small hji7
   by_cases c8 : 0 ≤ (Go.bits .and .u64 (ji7) 31)
   {
   rw [if_pos c8] at H
   have c8b0 := decide_eq_true c8
   clear c8
   by_cases c9 : (Go.bits .and .u64 (ji7) 31) < 32
   {
   rw [if_pos c9] at H
   have c9b0 := decide_eq_true c9
   clear c9
   by_cases c11 : x3_1.length < 140737488355328
   {
   rw [if_pos c11] at H
   have LMc11 := Aside0.mk c11
   clear c11
   obtain ⟨y208, hy208⟩ : ∃ y_ : List Int, y_ = (x3_1 ++ [bt (⟨#[48, 49, 50, 51, 52, 53, 54, 55, 56, 57, 97, 98, 99, 100, 102, 103, 104, 105, 106, 107, 108, 109, 110, 112, 113, 114, 115, 118, 119, 120, 121, 122]⟩ : ByteArray) (Go.bits .and .u64 (ji7) 31)]) := ⟨_, rfl⟩
   replace H : (spec_Word32.l0 k1 a0 y208 (wrap64 (x4_1 - 1))) = some r := rH_ hy208 H
   have Ny208 := Aside0.mk hy208
   clear hy208
   have H' := Aside0.mk H
   clear H
   have p10 : 0 ≤ ((Go.bits .and .u64 (ji7) 31) : Int) := dA_
   have q10 : (Go.bits .and .u64 (ji7) 31) < (32 : Int) := dA_
   have hx10 := bt_at (⟨#[48, 49, 50, 51, 52, 53, 54, 55, 56, 57, 97, 98, 99, 100, 102, 103, 104, 105, 106, 107, 108, 109, 110, 112, 113, 114, 115, 118, 119, 120, 121, 122]⟩ : ByteArray) (Go.bits .and .u64 (ji7) 31)
   replace p10 := eq_true p10
   replace q10 := eq_true q10
   go_wp2_with (first | ((with_reducible refine gate_builtin (b := .append) (xs := #[.tmp 10, .tmp 18]) rfl ?_); at_builtin; refine Kd.R_append (Kd.int .u8) (w0 := w) w.heap.size rfl (.tmp 10) (.tmp 18) 22 5 (.int .u8 0) 1 rfl Tryd.underlying22 info5 rfl (by decide) (by omega) u3 x3_1 (bt (⟨#[48, 49, 50, 51, 52, 53, 54, 55, 56, 57, 97, 98, 99, 100, 102, 103, 104, 105, 106, 107, 108, 109, 110, 112, 113, 114, 115, 118, 119, 120, 121, 122]⟩ : ByteArray) (Go.bits .and .u64 (ji7) 31)) [.int .u8 (bt (⟨#[48, 49, 50, 51, 52, 53, 54, 55, 56, 57, 97, 98, 99, 100, 102, 103, 104, 105, 106, 107, 108, 109, 110, 112, 113, 114, 115, 118, 119, 120, 121, 122]⟩ : ByteArray) (Go.bits .and .u64 (ji7) 31))] (fun _ => True) (fun _ => False) rfl rfl ?aP (fun _ hk => hk.elim) ?aF ?aO ?aB ?aS ?aL ?_; (case aP => exact rfl); (case aB => exact (bw_ HB)); (case aF => exact (fun _ _ => trivial)); (case aO => exact (kr_ HO_3)); (case aS => exact (below_size (bw_ HB))); (case aL => have := LMc11.out; omega); intro v209 w12 ho hb hg hat; rw [← Ny208.out] at ho; replace HB := Aside0.mk (hb); have HO210 := Aside0.mk (ho); clear HO_3; clear ho hb hg hat))
   go_roundg k1
   case measure => have := HK1.out; omega
   case rel => exact ⟨(y208), (wrap64 (x4_1 - 1)), (by first | rfl | (simp; done) | (simp [*]; done)), H', ⟨by have := HK1.out; omega⟩, ⟨kr_ HO210⟩, ⟨bw_ HB⟩⟩}
   {
   rw [if_neg c11] at H
   exact absurd H (by simp)}}
   {
   rw [if_neg c9] at H
   exact absurd H (by simp)}}
   {
   rw [if_neg c8] at H
   exact absurd H (by simp)}}
   {
   rw [if_neg c6] at H
   exact absurd H (by simp)}}
   {
   rw [if_neg c4] at H
   have c4b0 : decide (0 ≤ x4_1) = false := decide_eq_false c4
   clear c4
   obtain rfl := Option.some.inj H
   have hcv13 := own_string (P := Tryd.prog) Tryd.underlying22 Tryd.underlying5 Tryd.underlying9 (Kd.own_of_R HO_3.out)
   go_wp2
   go_ret
   exact ⟨eR_, bw_ HB⟩}
def spec_l1Address.pre (a0 a1 : ByteArray) : ByteArray := ((a0 ++ (⟨#[58]⟩ : ByteArray)) ++ a1) ++ (⟨#[58]⟩ : ByteArray)
def spec_l1Address.f (k : Nat) (a0 a1 : ByteArray) (l2 : List Int) : Option ByteArray :=
 if a0.size ≤ 1048576 ∧ a1.size ≤ 1048576 ∧ l2.length ≤ 1048576 then (spec_Sum.f k (bytesOf (spec_l1Address.pre a0 a1) ++ l2)).bind fun t => (spec_Word32.f k t).bind fun u =>
  if u.size ≤ 1048576 then some ((u ++ (⟨#[45]⟩ : ByteArray)) ++ a1) else none else none
theorem spec_l1Address.info : (Tryd.prog.info? 5).map (fun i => (i.zero, i.size, i.bytes)) = some (some (.int .u8 0), 1, 1) := by kernel_rfl
set_option maxHeartbeats 4000000 in
theorem spec_l1Address.calls (k : Nat) (a0 : ByteArray) (a1 : ByteArray) (A2 : Option Addr) (c2 : Nat) (l2 : List Int) (r : ByteArray) (w : World) (hr2 : Kd.C (Kd.int .u8) w A2 l2.length l2) (hc2 : l2.length ≤ c2) (h : spec_l1Address.f k a0 a1 l2 = some r) :
 Calls Tryd.prog 74 #[.string a0, .string a1, .slice A2 l2.length c2] w fun e w' => e = .returned (.string r) ∧ Below w.heap.size w w' := by
 unfold spec_l1Address.f at h
 by_cases hb : a0.size ≤ 1048576 ∧ a1.size ≤ 1048576 ∧ l2.length ≤ 1048576
 {
 rw [if_pos hb] at h
 obtain ⟨b0, b1, b2⟩ := hb
 replace h := Option.bind_eq_some_iff.mp h
 obtain ⟨t, f_s, h⟩ := h
 replace h := Option.bind_eq_some_iff.mp h
 obtain ⟨u, f_w, h⟩ := h
 by_cases b3 : u.size ≤ 1048576
 {
 rw [if_pos b3] at h
 obtain rfl := Option.some.inj h
 clear h
 obtain ⟨p, hp⟩ : ∃ p, p = spec_l1Address.pre a0 a1 := ⟨_, rfl⟩
 obtain ⟨y, hy⟩ : ∃ y, y = bytesOf (spec_l1Address.pre a0 a1) := ⟨_, rfl⟩
 rw [← hy] at f_s
 have hyl : y.length = a0.size + a1.size + 2 := by
  rw [hy, bytesOf_length]
  unfold spec_l1Address.pre
  simp only [ByteArray.size_append]
  show a0.size + 1 + a1.size + 1 = _
  omega
 have F_s := Aside0.mk f_s
 have F_w := Aside0.mk f_w
 have HY := Aside0.mk hy
 have HYL := Aside0.mk hyl
 clear f_s f_w hy hyl
 have HB := Aside0.mk (Below.refl w.heap.size w)
 have HR := Aside0.mk hr2
 clear hr2
 have d1 : decide (a0.size + 1 ≤ 9223372036854775807) = true := decide_eq_true (by omega)
 have d2 : decide (a0.size + 1 + a1.size ≤ 9223372036854775807) = true := decide_eq_true (by omega)
 have d3 : decide (a0.size + 1 + a1.size + 1 ≤ 9223372036854775807) = true := decide_eq_true (by omega)
 have d4 : decide (u.size + 1 ≤ 9223372036854775807) = true := decide_eq_true (by omega)
 have d5 : decide (u.size + 1 + a1.size ≤ 9223372036854775807) = true := decide_eq_true (by omega)
 have e1 : (a0.size + 1 ≤ 9223372036854775807) = True := eq_true (by omega)
 have e2 : ((a0 ++ (⟨#[58]⟩ : ByteArray)).size + a1.size ≤ 9223372036854775807) = True := eq_true (by simp only [ByteArray.size_append]; show a0.size + 1 + _ ≤ _; omega)
 have e3 : (((a0 ++ (⟨#[58]⟩ : ByteArray)) ++ a1).size + 1 ≤ 9223372036854775807) = True := eq_true (by simp only [ByteArray.size_append]; show a0.size + 1 + _ + 1 ≤ _; omega)
 have e4 : (u.size + 1 ≤ 9223372036854775807) = True := eq_true (by omega)
 have e5 : ((u ++ (⟨#[45]⟩ : ByteArray)).size + a1.size ≤ 9223372036854775807) = True := eq_true (by simp only [ByteArray.size_append]; show u.size + 1 + _ ≤ _; omega)
 go_enter Tryd.func74, Tryd.ntmps74
 go_wp2_with (first
  | ((with_reducible refine gate_dst (N := 13) rfl ?_); refine conv_room rfl (N := 13) rfl 9 22 5 _ rfl Tryd.underlying9 Tryd.underlying22 Tryd.underlying5 (spec_l1Address.pre a0 a1) rfl y HY.out ?_; intro g c w2 hc hb; have HC := Aside0.mk hc; replace HB := Aside0.mk (below_step (bw_ HB) hb); clear hc hb)
  | ((with_reducible refine gate_builtin (b := .append) (xs := #[.tmp 14, .tmp 15]) rfl ?_); refine room_append (w0 := w) w.heap.size rfl (.tmp 14) (.tmp 15) 22 5 rfl Tryd.underlying22 spec_l1Address.info g c y l2 A2 c2 rfl rfl ?hA ?hR ?hB ?hS ?hL ?_; (case hA => exact ⟨Nat.le_trans (Nat.le_refl _) HC.out.new, HC.out.lt, HC.out.le, HC.out.cells, HC.out.room⟩); (case hR => exact Kd.C_below HR.out HB.out); (case hB => exact HB.out); (case hS => exact HB.out.size); (case hL => have := HYL.out; omega); intro A3 c3 w3 hc3 hl3 hb3; have HC3 := Aside0.mk hc3; have HL3 := Aside0.mk hl3; replace HB := Aside0.mk hb3; clear hc3 hl3 hb3)
  | ((with_reducible refine gate_callee (f := 83) rfl ?_); refine goesL_ (some 17) rfl rfl Tryd.func83 (by kernel_rfl) rfl #[.slice A3 (y ++ l2).length c3] rfl (by (try simp only [List.map_toArray, List.map_cons, List.map_nil]); first | done | rfl) ?_; (with_reducible refine (spec_Sum.calls k _ _ (y ++ l2) t _ ?s0 ?s1 F_s.out).mono ?_); (case s0 => exact HC3.out); (case s1 => exact HL3.out); rintro e w' ⟨rfl, ⟨nd, rfl⟩⟩; refine ⟨_, rfl, ?_⟩; skip)
  | ((with_reducible refine gate_callee (f := 82) rfl ?_); refine goesL_ (some 18) rfl rfl Tryd.func82 (by kernel_rfl) rfl #[.int .u64 t] rfl (by (try simp only [List.map_toArray, List.map_cons, List.map_nil]); first | done | rfl) ?_; (with_reducible refine (spec_Word32.calls k t u _ F_w.out).mono ?_); rintro e w4 ⟨rfl, hb⟩; refine ⟨_, rfl, ?_⟩; replace HB := Aside0.mk (below_step (bw_ HB) hb); clear hb))
 go_ret
 exact ⟨rfl, bw_ HB⟩}
 {
 rw [if_neg b3] at h
 cases h}}
 {
 rw [if_neg hb] at h
 cases h
}
def spec_l10DrawAddress.f (k : Nat) (s0_0 : List Int) (s0_1 : Int) (s0_2 : Int) : Option (ByteArray × Int × Int) := (some (([(⟨#[97]⟩ : ByteArray), (⟨#[98]⟩ : ByteArray), (⟨#[99]⟩ : ByteArray)] : List ByteArray) : List ByteArray)).bind fun y211 => ((spec_l1Below.f s0_0 s0_1 s0_2 3).bind fun bt214 => (if 0 ≤ bt214.1 then (if bt214.1 < (y211.length : Int) then ((spec_l1Below.f s0_0 bt214.2.1 bt214.2.2 4).bind fun bt218 => ((spec_l1Address.f k (⟨#[111, 117, 116]⟩ : ByteArray) (rdOf ByteArray.empty y211 bt214.1) (([(bt218.1) % 256] : List Int))).bind fun t224 => (some (t224, bt218.2.1, bt218.2.2)))) else (none)) else (none)))
def spec_l10DrawAddress.T1 : Bool × List (List Nat × List Nat) := (true, [([], []), ([], []), ([1], [1]), ([0, 2], [0, 2]), ([3], [3]), ([], []), ([5, 2], [5]), ([6], [6]), ([7], [7]), ([4, 8, 6], [4, 8]), ([9, 9, 0, 1, 2, 3, 4, 5, 6, 7, 8, 9], [9])])
def spec_l10DrawAddress.B1 : List Nat := [0, 0, 2, 7, 15, 0, 38, 102, 230, 511, 1023]
theorem spec_l10DrawAddress.tab1 : rtab .any (opsOf Tryd.f65 1) = spec_l10DrawAddress.T1 := by kernel_rfl
theorem spec_l10DrawAddress.bits1 : waitsOk spec_l10DrawAddress.T1.2 spec_l10DrawAddress.B1 = true := by kernel_rfl
theorem spec_l10DrawAddress.calls (k : Nat) (g : Nat) (s0_0 : List Int) (s0_1 : Int) (s0_2 : Int) (r1 : ByteArray) (r2 : Int) (r3 : Int) (w0 w : World) (hI : IsS72 w0 w g s0_0 s0_1 s0_2) (hB : Below w0.heap.size w0 w) (h : spec_l10DrawAddress.f k s0_0 s0_1 s0_2 = some (r1, r2, r3)) :
 Calls Tryd.prog 65 #[.pointer (some ⟨g, 0, none⟩)] w fun e w' => e = .returned (.string r1) ∧ IsS72 w0 w' g s0_0 r2 r3 ∧ Below w0.heap.size w0 w' ∧ KeepBut w w' g none := by
 have HI0 := Aside0.mk hI
 have HK := Aside0.mk (KeepBut.refl w g none)
 have HL := Aside0.mk hB.size
 clear hI
 have HW0 := Aside0.mk hB.size
 have HB := Aside0.mk hB
 clear hB
 have H : ((some (([(⟨#[97]⟩ : ByteArray), (⟨#[98]⟩ : ByteArray), (⟨#[99]⟩ : ByteArray)] : List ByteArray) : List ByteArray)).bind fun y211 => ((spec_l1Below.f s0_0 s0_1 s0_2 3).bind fun bt214 => (if 0 ≤ bt214.1 then (if bt214.1 < (y211.length : Int) then ((spec_l1Below.f s0_0 bt214.2.1 bt214.2.2 4).bind fun bt218 => ((spec_l1Address.f k (⟨#[111, 117, 116]⟩ : ByteArray) (rdOf ByteArray.empty y211 bt214.1) (([(bt218.1) % 256] : List Int))).bind fun t224 => (some (t224, bt218.2.1, bt218.2.2)))) else (none)) else (none)))) = some (r1, r2, r3) := h
 clear h
 obtain ⟨y211, hy211⟩ : ∃ y_ : List ByteArray, y_ = (([(⟨#[97]⟩ : ByteArray), (⟨#[98]⟩ : ByteArray), (⟨#[99]⟩ : ByteArray)] : List ByteArray)) := ⟨_, rfl⟩
 replace H : ((spec_l1Below.f s0_0 s0_1 s0_2 3).bind fun bt214 => (if 0 ≤ bt214.1 then (if bt214.1 < (y211.length : Int) then ((spec_l1Below.f s0_0 bt214.2.1 bt214.2.2 4).bind fun bt218 => ((spec_l1Address.f k (⟨#[111, 117, 116]⟩ : ByteArray) (rdOf ByteArray.empty y211 bt214.1) (([(bt218.1) % 256] : List Int))).bind fun t224 => (some (t224, bt218.2.1, bt218.2.2)))) else (none)) else (none))) = some (r1, r2, r3) := rH_ hy211 H
 have Ny211 := Aside0.mk hy211
 clear hy211
 replace H := Option.bind_eq_some_iff.mp H
 obtain ⟨⟨t214, t215, t216⟩, A20, H⟩ := H
 have A2 := Aside0.mk A20
 clear A20
 by_cases c3 : 0 ≤ t214
 {
 rw [if_pos c3] at H
 have c3b0 := decide_eq_true c3
 clear c3
 by_cases c4 : t214 < (y211.length : Int)
 {
 rw [if_pos c4] at H
 have c4b0 := decide_eq_true c4
 clear c4
 replace H := Option.bind_eq_some_iff.mp H
 obtain ⟨⟨t218, t219, t220⟩, A50, H⟩ := H
 have A5 := Aside0.mk A50
 clear A50
 obtain ⟨y221, hy221⟩ : ∃ y_ : List Int, y_ = (([(t218) % 256] : List Int)) := ⟨_, rfl⟩
 replace H : ((spec_l1Address.f k (⟨#[111, 117, 116]⟩ : ByteArray) (rdOf ByteArray.empty y211 t214) y221).bind fun t224 => (some (t224, t219, t220))) = some (r1, r2, r3) := rH_ hy221 H
 have Ny221 := Aside0.mk hy221
 clear hy221
 replace H := Option.bind_eq_some_iff.mp H
 obtain ⟨t224, A60, H⟩ := H
 have A6 := Aside0.mk A60
 clear A60
 simp only [Option.some.injEq, Prod.mk.injEq] at H
 obtain ⟨rfl, rfl, rfl⟩ := H
 go_enter Tryd.func65, Tryd.ntmps65
 try go_wp2
 have pi217 : (0 ≤ (t214 : Int)) = True := eq_true (dA_)
 have qi217 : (t214 < (y211.length : Int)) = True := eq_true (dA_)
 replace HI0 := Aside0.mk (IsS72.drew HI0.out)
 replace HK := Aside0.mk (keep_drew HK.out)
 replace HB := Aside0.mk (below_drew1 HB.out)
 refine start_ (n := 11) (S := fun w' => True) (ds := []) (bs_ 11 0) (by kernel_rfl) rfl (by kernel_rfl) trivial (fun hHeld => ?_); refine with_tabW spec_l10DrawAddress.tab1 spec_l10DrawAddress.bits1 (fun HT_ HW_ => ?_)
 generalize w.drew = w7 at HI0 HK HB hHeld ⊢
 refine pS_ 1 ?_
 refine pS_ 5 ?_
 refine inv_at [0, 2, 3, 4, 6, 7, 8, 9, 10] (fun a0_ b a w' => ∃ (v212 : Value) (adz_v212 : Addr) (v222 : Value) (m3_ : Value), a = putSel a0_ b [(0, 3, v212), (2, 5, .int .i64 t214), (3, 6, m3_), (4, 7, .string (rdOf ByteArray.empty y211 t214)), (6, 9, .int .i64 t218), (7, 10, .int .u8 ((t218) % 256)), (8, 11, v222), (9, 12, .string t224), (10, 2, .string t224)] ∧ (b 2 = false → IsS72 w0 w' g s0_0 s0_1 s0_2) ∧ (KeepBut w w' g none) ∧ (Below w0.heap.size w0 w') ∧ (b 0 = true → Kd.R Kd.string 9 w' w.heap.size (fun _ => True) v212 y211) ∧ (b 0 = true → ∃ c_, (v212 : Value) = .slice (some adz_v212) y211.length c_) ∧ (b 2 = true → b 6 = false → IsS72 w0 w' g s0_0 t215 t216) ∧ (b 6 = true → IsS72 w0 w' g s0_0 t219 t220) ∧ (b 8 = true → Kd.R (Kd.int .u8) 5 w' w.heap.size (fun _ => True) v222 y221) ∧ (b 3 = true → (m3_ : Value) = .pointer (some (adz_v212.add (t214).toNat)))) HT_.out HW_.out (by kernel_rfl) (by kernel_rfl) ?_ ?_ ?_
 {
 exact ⟨.bool false, ⟨0, 0, none⟩, .bool false, .bool false, by simp only [putSel, Bool.false_eq_true, if_false], fun _ => HI0.out, HK.out, HB.out, fun h_ => absurd h_ (by decide), fun h_ => absurd h_ (by decide), fun h_ => absurd h_ (by decide), fun h_ => absurd h_ (by decide), fun h_ => absurd h_ (by decide), fun h_ => absurd h_ (by decide)⟩}
 {
 skip
 clear HB HI0 HK
 refine steps_cons ?_ ?_
 {
 rintro b a w' ⟨v212, adz_v212, v222, m3_, ha, Q_HI0, Q_HK, Q_HB, Q_HO213, Q_HA_HO213, Q_HI0_e2, Q_HI0_e6, Q_HO223, Q_X3_⟩ hb_ hon hoff
 refine ⟨_, rfl, fun K hK => ?_⟩
 replace ha := Aside0.mk ha
 have HK := Aside0.mk Q_HK
 have HB := Aside0.mk Q_HB
 refine Kd.R_lit_step Kd.string _ 9 ?hg (N := 3) ?hd (xs := ([(⟨#[97]⟩ : ByteArray), (⟨#[98]⟩ : ByteArray), (⟨#[99]⟩ : ByteArray)] : List ByteArray)) (inner := [.string (⟨#[97]⟩ : ByteArray), .string (⟨#[98]⟩ : ByteArray), .string (⟨#[99]⟩ : ByteArray)]) (ok := fun _ => True) (okp := fun _ => True) ?hr ?hp (fun _ hk => hk) trivial (Below.refl _ _) (Nat.le_refl _) (by simp) ?_; (case hd => rfl); (case hg => rfl); (case hr => first | (go_simp; done) | (go_simp; rfl)); (case hp => exact (Reps.one (show Kd.M Kd.string _ _ _ (⟨#[97]⟩ : ByteArray) [.string (⟨#[97]⟩ : ByteArray)] from rfl) (Reps.one (show Kd.M Kd.string _ _ _ (⟨#[98]⟩ : ByteArray) [.string (⟨#[98]⟩ : ByteArray)] from rfl) (Reps.one (show Kd.M Kd.string _ _ _ (⟨#[99]⟩ : ByteArray) [.string (⟨#[99]⟩ : ByteArray)] from rfl) (Reps.none _ _)))))
 intro v212 w8 ho9 hb hg_ hnew_
 clear hg_ hnew_
 (first | rw [← Ny211.out] at ho9 | (simp only [Int.reduceToNat] at ho9; rw [← Ny211.out] at ho9))
 have n0_ := Aside0.mk (Kd.R_lower ho9 (keep_size (w := w) (g := g) (row := none) (kb_ HK)))
 have n2_ := Aside0.mk (KeepBut.trans (kb_ HK) (KeepBut.of_below hb g none) (.inl rfl))
 have n3_ := Aside0.mk (below_step (bw_ HB) hb)
 have z_HI0 := fun (h0_ : b 2 = false) => (show IsS72 w0 w8 g s0_0 s0_1 s0_2 from by first | exact (IsS72.below (by repeat (first | (with_reducible first | exact (Q_HI0 h0_) | apply IsS72.alloc | apply IsS72.drewN | apply IsS72.drew | apply IsS72.set_1 | apply IsS72.set_2) | exact (Q_HI0 h0_))) hb))
 have z_HI0_e2 := fun (h0_ : b 2 = true) (h1_ : b 6 = false) => (show IsS72 w0 w8 g s0_0 t215 t216 from by first | exact (IsS72.below (by repeat (first | (with_reducible first | exact (Q_HI0_e2 h0_ h1_) | apply IsS72.alloc | apply IsS72.drewN | apply IsS72.drew | apply IsS72.set_1 | apply IsS72.set_2) | exact (Q_HI0_e2 h0_ h1_))) hb))
 have z_HI0_e6 := fun (h0_ : b 6 = true) => (show IsS72 w0 w8 g s0_0 t219 t220 from by first | exact (IsS72.below (by repeat (first | (with_reducible first | exact (Q_HI0_e6 h0_) | apply IsS72.alloc | apply IsS72.drewN | apply IsS72.drew | apply IsS72.set_1 | apply IsS72.set_2) | exact (Q_HI0_e6 h0_))) hb))
 have z_HO223 := fun (h0_ : b 8 = true) => (show Kd.R (Kd.int .u8) 5 w8 w.heap.size (fun _ => True) v222 y221 from by first | exact (Kd.R_below (by (with_reducible repeat (first | apply Kd.R_alloc | apply Kd.R_drewN | apply Kd.R_drew)); exact (Q_HO223 h0_)) hb) | exact Kd.R_mono (Kd.R_below (by (with_reducible repeat (first | apply Kd.R_alloc | apply Kd.R_drewN | apply Kd.R_drew)); exact (Q_HO223 h0_)) hb) (fun _ h_ => by first | trivial | exact h_ | exact h_.1))
 clear HK
 clear HB
 have HO213 := n0_
 have HK := n2_
 have HB := n3_
 clear n0_ n2_ n3_
 clear hb ho9
 obtain ⟨Ao10, co10, eo10⟩ := Kd.R_slice HO213.out
 subst eo10
 obtain ⟨ado10, fo10, _⟩ := Kd.at_string (Kd.R_reads' HO213.out).2.2 0 (by decide) (by rw [Ny211.out]; simp)
 cases fo10
 refine hK.out _ _ ⟨.slice (some ado10) y211.length co10, ado10, v222, m3_, (by rw [ha.out]; exact putSel_upk 0 hb_ rfl rfl rfl), z_HI0, (kb_ HK), (bw_ HB), fun _ => (kr_ HO213), fun _ => ⟨_, rfl⟩, z_HI0_e2, z_HI0_e6, z_HO223, fun h0_ => absurd ((hoff 3 (by kernel_rfl)).symm.trans h0_) (by decide)⟩}
 refine steps_cons ?_ ?_
 {
 rintro b a w' ⟨v212, adz_v212, v222, m3_, ha, Q_HI0, Q_HK, Q_HB, Q_HO213, Q_HA_HO213, Q_HI0_e2, Q_HI0_e6, Q_HO223, Q_X3_⟩ hb_ hon hoff
 refine ⟨_, rfl, fun K hK => ?_⟩
 have e4 : a.tmps[4]? = some (.pointer (some ⟨g, 0, none⟩)) := by rw [ha]; exact (putSel_off rfl).trans rfl
 replace ha := Aside0.mk ha
 have HI0 := Aside0.mk (Q_HI0 hb_)
 have HK := Aside0.mk Q_HK
 have HB := Aside0.mk Q_HB
 refine goes_ Tryd.func32 (by kernel_rfl) rfl #[.pointer (some ⟨g, 0, none⟩), .int .i64 3] (by rfl) rfl rfl (by first | (simp only [List.map_toArray, List.map_cons, List.map_nil, Act.eval, Array.getD_eq_getD_getElem?, Option.getD_some, e4]; done) | (simp only [List.map_toArray, List.map_cons, List.map_nil, Act.eval, Array.getD_eq_getD_getElem?, Option.getD_some, e4]; rfl)) ?_
 with_reducible refine (spec_l1Below.calls g s0_0 s0_1 s0_2 3 t214 t215 t216 w0 _ ?side1 ?side2 A2.out).mono ?_
 (case side1 => exact is72_ HI0)
 (case side2 => repeat (first | (with_reducible first | exact HB.out | apply below_alloc | apply pw_below_drewN | apply below_drew1 | refine below_set ?_ (IsS72.ge HI0.out)) | exact HB.out))
 rintro e w8 ⟨rfl, hi, hb, hk⟩
 refine ⟨_, rfl, ?_⟩
 have n0_ := Aside0.mk (KeepBut.trans (kb_ HK) hk (.inl rfl))
 have n1_ := Aside0.mk (hb)
 have n2_ := Aside0.mk (hi)
 have z_HO213 := fun (h0_ : b 0 = true) => (show Kd.R Kd.string 9 w8 w.heap.size (fun _ => True) v212 y211 from by first | exact (Kd.R_mono (Kd.R_keep (IsS72.apart (show IsS72 w0 _ g s0_0 s0_1 s0_2 from is72_ HI0) (by (with_reducible repeat (first | apply Kd.R_alloc | apply Kd.R_drewN | apply Kd.R_drew)); exact (Q_HO213 h0_)) (by decide)) hk (fun _ h => h.2)) (fun _ h => h.1)) | exact Kd.R_mono (Kd.R_mono (Kd.R_keep (IsS72.apart (show IsS72 w0 _ g s0_0 s0_1 s0_2 from is72_ HI0) (by (with_reducible repeat (first | apply Kd.R_alloc | apply Kd.R_drewN | apply Kd.R_drew)); exact (Q_HO213 h0_)) (by decide)) hk (fun _ h => h.2)) (fun _ h => h.1)) (fun _ h_ => by first | trivial | exact h_ | exact h_.1))
 clear HK
 clear HB
 clear HI0
 have HK := n0_
 have HB := n1_
 have HI0 := n2_
 clear n0_ n1_ n2_
 (try clear hb)
 (try clear hb2)
 (try clear hk)
 (try clear hi)
 refine hK.out _ _ ⟨v212, adz_v212, v222, m3_, (by rw [ha.out]; exact putSel_upk 1 hb_ rfl rfl rfl), fun h0_ => absurd ((up_self b 2).symm.trans h0_) (by decide), (kb_ HK), (bwg_ HB (IsS72.ge HI0.out)), z_HO213, Q_HA_HO213, fun _ _ => (is72_ HI0), fun h0_ => absurd ((hoff 6 (by kernel_rfl)).symm.trans h0_) (by decide), fun h0_ => absurd ((hoff 8 (by kernel_rfl)).symm.trans h0_) (by decide), fun h0_ => absurd ((hoff 3 (by kernel_rfl)).symm.trans h0_) (by decide)⟩}
 refine steps_cons ?_ ?_
 {
 rintro b a w' ⟨v212, adz_v212, v222, m3_, ha, Q_HI0, Q_HK, Q_HB, Q_HO213, Q_HA_HO213, Q_HI0_e2, Q_HI0_e6, Q_HO223, Q_X3_⟩ hb_ hon hoff
 refine ⟨_, rfl, fun K hK => ?_⟩
 have e3 : a.tmps[3]? = some (v212) := by rw [ha]; exact putSel_on (e := (0, 3, v212)) 0 rfl rfl (hon 0 (by kernel_rfl)) rfl
 have e5 : a.tmps[5]? = some (.int .i64 t214) := by rw [ha]; exact putSel_on (e := (2, 5, .int .i64 t214)) 1 rfl rfl (hon 2 (by kernel_rfl)) rfl
 replace ha := Aside0.mk ha
 have HK := Aside0.mk Q_HK
 have HB := Aside0.mk Q_HB
 have HO213 := Aside0.mk (Q_HO213 (hon 0 (by kernel_rfl)))
 have HA_HO213 := Aside0.mk (Q_HA_HO213 (hon 0 (by kernel_rfl)))
 obtain ⟨c_, hv_⟩ := HA_HO213.out
 rw [hv_] at e3
 refine value_ (w1 := w') (v := .pointer (some (adz_v212.add (t214).toNat))) (by rfl) rfl ?_ ?_
 {
 go_simp
 (try simp only [i64_w])
 try rfl}
 refine hK.out _ _ ⟨v212, adz_v212, v222, (.pointer (some (adz_v212.add (t214).toNat))), (by rw [ha.out]; exact putSel_upk 2 hb_ rfl rfl rfl), fun h0_ => absurd ((hon 2 (by kernel_rfl)).symm.trans h0_) (by decide), Q_HK, Q_HB, Q_HO213, Q_HA_HO213, Q_HI0_e2, Q_HI0_e6, Q_HO223, fun _ => rfl⟩}
 refine steps_cons ?_ ?_
 {
 rintro b a w' ⟨v212, adz_v212, v222, m3_, ha, Q_HI0, Q_HK, Q_HB, Q_HO213, Q_HA_HO213, Q_HI0_e2, Q_HI0_e6, Q_HO223, Q_X3_⟩ hb_ hon hoff
 refine ⟨_, rfl, fun K hK => ?_⟩
 have e6 : a.tmps[6]? = some (m3_) := by rw [ha]; exact putSel_on (e := (3, 6, m3_)) 2 rfl rfl (hon 3 (by kernel_rfl)) rfl
 rw [Q_X3_ (hon 3 (by kernel_rfl))] at e6
 replace ha := Aside0.mk ha
 have HK := Aside0.mk Q_HK
 have HB := Aside0.mk Q_HB
 have HO213 := Aside0.mk (Q_HO213 (hon 0 (by kernel_rfl)))
 have HA_HO213 := Aside0.mk (Q_HA_HO213 (hon 0 (by kernel_rfl)))
 obtain ⟨c_, hv_⟩ := HA_HO213.out
 have hF_ := HO213.out
 rw [hv_] at hF_
 obtain ⟨ad_, ea_, hx_⟩ := Kd.at_string (Kd.R_reads' hF_).2.2 t214 (of_eq_true pi217) (of_eq_true qi217)
 cases ea_
 refine value_ (w1 := w') (v := .string (rdOf ByteArray.empty y211 t214)) (by rfl) rfl ?_ ?_
 {
 go_simp
 (try simp only [i64_w])
 try rfl}
 refine hK.out _ _ ⟨v212, adz_v212, v222, m3_, (by rw [ha.out]; exact putSel_upk 3 hb_ rfl rfl rfl), fun h0_ => absurd ((hon 2 (by kernel_rfl)).symm.trans h0_) (by decide), Q_HK, Q_HB, Q_HO213, Q_HA_HO213, Q_HI0_e2, Q_HI0_e6, Q_HO223, Q_X3_⟩}
 refine steps_cons ?_ ?_
 {
 rintro b a w' ⟨v212, adz_v212, v222, m3_, ha, Q_HI0, Q_HK, Q_HB, Q_HO213, Q_HA_HO213, Q_HI0_e2, Q_HI0_e6, Q_HO223, Q_X3_⟩ hb_ hon hoff
 refine ⟨_, rfl, fun K hK => ?_⟩
 have e8 : a.tmps[8]? = some (.pointer (some ⟨g, 0, none⟩)) := by rw [ha]; exact (putSel_off rfl).trans rfl
 replace ha := Aside0.mk ha
 have HK := Aside0.mk Q_HK
 have HB := Aside0.mk Q_HB
 have HI0 := Aside0.mk (Q_HI0_e2 (hon 2 (by kernel_rfl)) hb_)
 refine goes_ Tryd.func32 (by kernel_rfl) rfl #[.pointer (some ⟨g, 0, none⟩), .int .i64 4] (by rfl) rfl rfl (by first | (simp only [List.map_toArray, List.map_cons, List.map_nil, Act.eval, Array.getD_eq_getD_getElem?, Option.getD_some, e8]; done) | (simp only [List.map_toArray, List.map_cons, List.map_nil, Act.eval, Array.getD_eq_getD_getElem?, Option.getD_some, e8]; rfl)) ?_
 with_reducible refine (spec_l1Below.calls g s0_0 t215 t216 4 t218 t219 t220 w0 _ ?side1 ?side2 A5.out).mono ?_
 (case side1 => exact is72_ HI0)
 (case side2 => repeat (first | (with_reducible first | exact HB.out | apply below_alloc | apply pw_below_drewN | apply below_drew1 | refine below_set ?_ (IsS72.ge HI0.out)) | exact HB.out))
 rintro e w10 ⟨rfl, hi, hb, hk⟩
 refine ⟨_, rfl, ?_⟩
 have n0_ := Aside0.mk (KeepBut.trans (kb_ HK) hk (.inl rfl))
 have n1_ := Aside0.mk (hb)
 have n2_ := Aside0.mk (hi)
 have z_HO213 := fun (h0_ : b 0 = true) => (show Kd.R Kd.string 9 w10 w.heap.size (fun _ => True) v212 y211 from by first | exact (Kd.R_mono (Kd.R_keep (IsS72.apart (show IsS72 w0 _ g s0_0 t215 t216 from is72_ HI0) (by (with_reducible repeat (first | apply Kd.R_alloc | apply Kd.R_drewN | apply Kd.R_drew)); exact (Q_HO213 h0_)) (by decide)) hk (fun _ h => h.2)) (fun _ h => h.1)) | exact Kd.R_mono (Kd.R_mono (Kd.R_keep (IsS72.apart (show IsS72 w0 _ g s0_0 t215 t216 from is72_ HI0) (by (with_reducible repeat (first | apply Kd.R_alloc | apply Kd.R_drewN | apply Kd.R_drew)); exact (Q_HO213 h0_)) (by decide)) hk (fun _ h => h.2)) (fun _ h => h.1)) (fun _ h_ => by first | trivial | exact h_ | exact h_.1))
 clear HK
 clear HB
 clear HI0
 have HK := n0_
 have HB := n1_
 have HI0 := n2_
 clear n0_ n1_ n2_
 (try clear hb)
 (try clear hb2)
 (try clear hk)
 (try clear hi)
 refine hK.out _ _ ⟨v212, adz_v212, v222, m3_, (by rw [ha.out]; exact putSel_upk 4 hb_ rfl rfl rfl), fun h0_ => absurd ((hon 2 (by kernel_rfl)).symm.trans h0_) (by decide), (kb_ HK), (bwg_ HB (IsS72.ge HI0.out)), z_HO213, Q_HA_HO213, fun _ h1_ => absurd ((up_self b 6).symm.trans h1_) (by decide), fun _ => (is72_ HI0), fun h0_ => absurd ((hoff 8 (by kernel_rfl)).symm.trans h0_) (by decide), Q_X3_⟩}
 refine steps_cons ?_ ?_
 {
 rintro b a w' ⟨v212, adz_v212, v222, m3_, ha, Q_HI0, Q_HK, Q_HB, Q_HO213, Q_HA_HO213, Q_HI0_e2, Q_HI0_e6, Q_HO223, Q_X3_⟩ hb_ hon hoff
 refine ⟨_, rfl, fun K hK => ?_⟩
 have e9 : a.tmps[9]? = some (.int .i64 t218) := by rw [ha]; exact putSel_on (e := (6, 9, .int .i64 t218)) 4 rfl rfl (hon 6 (by kernel_rfl)) rfl
 replace ha := Aside0.mk ha
 have HK := Aside0.mk Q_HK
 have HB := Aside0.mk Q_HB
 have HI0 := Aside0.mk (Q_HI0_e6 (hon 6 (by kernel_rfl)))
 refine value_ (w1 := w') (v := .int .u8 ((t218) % 256)) (by rfl) rfl ?_ ?_
 {
 go_simp
 (try simp only [i64_w])
 try rfl}
 refine hK.out _ _ ⟨v212, adz_v212, v222, m3_, (by rw [ha.out]; exact putSel_upk 5 hb_ rfl rfl rfl), fun h0_ => absurd ((hon 2 (by kernel_rfl)).symm.trans h0_) (by decide), Q_HK, Q_HB, Q_HO213, Q_HA_HO213, fun _ h1_ => absurd ((hon 6 (by kernel_rfl)).symm.trans h1_) (by decide), Q_HI0_e6, fun h0_ => absurd ((hoff 8 (by kernel_rfl)).symm.trans h0_) (by decide), Q_X3_⟩}
 refine steps_cons ?_ ?_
 {
 rintro b a w' ⟨v212, adz_v212, v222, m3_, ha, Q_HI0, Q_HK, Q_HB, Q_HO213, Q_HA_HO213, Q_HI0_e2, Q_HI0_e6, Q_HO223, Q_X3_⟩ hb_ hon hoff
 refine ⟨_, rfl, fun K hK => ?_⟩
 have e10 : a.tmps[10]? = some (.int .u8 ((t218) % 256)) := by rw [ha]; exact putSel_on (e := (7, 10, .int .u8 ((t218) % 256))) 5 rfl rfl (hon 7 (by kernel_rfl)) rfl
 replace ha := Aside0.mk ha
 have HK := Aside0.mk Q_HK
 have HB := Aside0.mk Q_HB
 have HI0 := Aside0.mk (Q_HI0_e6 (hon 6 (by kernel_rfl)))
 refine Kd.R_lit_step (Kd.int .u8) _ 5 ?hg (N := 11) ?hd (xs := ([(t218) % 256] : List Int)) (inner := [.int .u8 ((t218) % 256)]) (ok := fun _ => True) (okp := fun _ => True) ?hr ?hp (fun _ hk => hk) trivial (Below.refl _ _) (Nat.le_refl _) (by simp) ?_; (case hd => rfl); (case hg => rfl); (case hr => first | (go_simp; done) | (go_simp; rfl)); (case hp => exact (Reps.one (show Kd.M (Kd.int .u8) _ _ _ ((t218) % 256) [.int .u8 ((t218) % 256)] from rfl) (Reps.none _ _)))
 intro v222 w11 ho12 hb hg_ hnew_
 clear hg_ hnew_
 (first | rw [← Ny221.out] at ho12 | (simp only [Int.reduceToNat] at ho12; rw [← Ny221.out] at ho12))
 have n0_ := Aside0.mk (Kd.R_lower ho12 (keep_size (w := w) (g := g) (row := none) (kb_ HK)))
 have n1_ := Aside0.mk (IsS72.below (is72_ HI0) hb)
 have n2_ := Aside0.mk (KeepBut.trans (kb_ HK) (KeepBut.of_below hb g none) (.inl rfl))
 have n3_ := Aside0.mk (below_step (bwg_ HB (IsS72.ge HI0.out)) hb)
 have z_HO213 := fun (h0_ : b 0 = true) => (show Kd.R Kd.string 9 w11 w.heap.size (fun _ => True) v212 y211 from by first | exact (Kd.R_below (by (with_reducible repeat (first | apply Kd.R_alloc | apply Kd.R_drewN | apply Kd.R_drew)); exact (Q_HO213 h0_)) hb) | exact Kd.R_mono (Kd.R_below (by (with_reducible repeat (first | apply Kd.R_alloc | apply Kd.R_drewN | apply Kd.R_drew)); exact (Q_HO213 h0_)) hb) (fun _ h_ => by first | trivial | exact h_ | exact h_.1))
 clear HI0
 clear HK
 clear HB
 have HO223 := n0_
 have HI0 := n1_
 have HK := n2_
 have HB := n3_
 clear n0_ n1_ n2_ n3_
 clear hb ho12
 refine hK.out _ _ ⟨v212, adz_v212, v222, m3_, (by rw [ha.out]; exact putSel_upk 6 hb_ rfl rfl rfl), fun h0_ => absurd ((hon 2 (by kernel_rfl)).symm.trans h0_) (by decide), (kb_ HK), (bwg_ HB (IsS72.ge HI0.out)), z_HO213, Q_HA_HO213, fun _ h1_ => absurd ((hon 6 (by kernel_rfl)).symm.trans h1_) (by decide), fun _ => (is72_ HI0), fun _ => (kr_ HO223), Q_X3_⟩}
 refine steps_cons ?_ ?_
 {
 rintro b a w' ⟨v212, adz_v212, v222, m3_, ha, Q_HI0, Q_HK, Q_HB, Q_HO213, Q_HA_HO213, Q_HI0_e2, Q_HI0_e6, Q_HO223, Q_X3_⟩ hb_ hon hoff
 refine ⟨_, rfl, fun K hK => ?_⟩
 have e7 : a.tmps[7]? = some (.string (rdOf ByteArray.empty y211 t214)) := by rw [ha]; exact putSel_on (e := (4, 7, .string (rdOf ByteArray.empty y211 t214))) 3 rfl rfl (hon 4 (by kernel_rfl)) rfl
 have e11 : a.tmps[11]? = some (v222) := by rw [ha]; exact putSel_on (e := (8, 11, v222)) 6 rfl rfl (hon 8 (by kernel_rfl)) rfl
 replace ha := Aside0.mk ha
 have HK := Aside0.mk Q_HK
 have HB := Aside0.mk Q_HB
 have HO213 := Aside0.mk (Q_HO213 (hon 0 (by kernel_rfl)))
 have HA_HO213 := Aside0.mk (Q_HA_HO213 (hon 0 (by kernel_rfl)))
 have HI0 := Aside0.mk (Q_HI0_e6 (hon 6 (by kernel_rfl)))
 have HO223 := Aside0.mk (Q_HO223 (hon 8 (by kernel_rfl)))
 obtain ⟨co16, eo16⟩ := HA_HO213.out
 clear HA_HO213
 subst eo16
 obtain ⟨Ao17, co17, eo17⟩ := Kd.R_slice HO223.out
 (first | subst eo17 | (injection eo17 with f1_ f2_ f3_; have f4_ := f1_.symm; have f5_ := f3_.symm; clear f1_ f2_ f3_; subst f4_; subst f5_))
 refine goes_ Tryd.func74 (by kernel_rfl) rfl #[.string (⟨#[111, 117, 116]⟩ : ByteArray), .string (rdOf ByteArray.empty y211 t214), .slice Ao17 y221.length co17] (by rfl) rfl rfl (by first | (simp only [List.map_toArray, List.map_cons, List.map_nil, Act.eval, Array.getD_eq_getD_getElem?, Option.getD_some, e7, e11]; done) | (simp only [List.map_toArray, List.map_cons, List.map_nil, Act.eval, Array.getD_eq_getD_getElem?, Option.getD_some, e7, e11]; rfl)) ?_
 with_reducible refine (spec_l1Address.calls k (⟨#[111, 117, 116]⟩ : ByteArray) (rdOf ByteArray.empty y211 t214) _ _ y221 t224 _ ?side1 ?side2 A6.out).mono ?_
 (case side1 => exact cR_ HO223)
 (case side2 => exact (Kd.R_reads' HO223.out).2.1)
 rintro e w18 ⟨rfl, hb⟩
 refine ⟨_, rfl, ?_⟩
 replace HO213 := Aside0.mk (Kd.R_below (kr_ HO213) hb)
 replace HO223 := Aside0.mk (Kd.R_below (kr_ HO223) hb)
 replace HK := Aside0.mk (KeepBut.trans (kb_ HK) (KeepBut.of_below hb g none) (.inl rfl))
 replace HB := Aside0.mk (below_step (bwg_ HB (IsS72.ge HI0.out)) hb)
 replace HI0 := Aside0.mk (IsS72.below (is72_ HI0) hb)
 (try clear hb)
 (try clear hb2)
 (try clear hk)
 (try clear hi)
 refine hK.out _ _ ⟨.slice (some adz_v212) y211.length co16, adz_v212, .slice Ao17 y221.length co17, m3_, (by rw [ha.out]; exact putSel_upk 7 hb_ rfl rfl rfl), fun h0_ => absurd ((hon 2 (by kernel_rfl)).symm.trans h0_) (by decide), (kb_ HK), (bwg_ HB (IsS72.ge HI0.out)), fun _ => (kr_ HO213), fun _ => ⟨_, rfl⟩, fun _ h1_ => absurd ((hon 6 (by kernel_rfl)).symm.trans h1_) (by decide), fun _ => (is72_ HI0), fun _ => (kr_ HO223), Q_X3_⟩}
 refine steps_cons ?_ ?_
 {
 rintro b a w' ⟨v212, adz_v212, v222, m3_, ha, Q_HI0, Q_HK, Q_HB, Q_HO213, Q_HA_HO213, Q_HI0_e2, Q_HI0_e6, Q_HO223, Q_X3_⟩ hb_ hon hoff
 refine ⟨_, rfl, fun K hK => ?_⟩
 have e12 : a.tmps[12]? = some (.string t224) := by rw [ha]; exact putSel_on (e := (9, 12, .string t224)) 7 rfl rfl (hon 9 (by kernel_rfl)) rfl
 replace ha := Aside0.mk ha
 have HK := Aside0.mk Q_HK
 have HB := Aside0.mk Q_HB
 have HO213 := Aside0.mk (Q_HO213 (hon 0 (by kernel_rfl)))
 have HA_HO213 := Aside0.mk (Q_HA_HO213 (hon 0 (by kernel_rfl)))
 have HI0 := Aside0.mk (Q_HI0_e6 (hon 6 (by kernel_rfl)))
 have HO223 := Aside0.mk (Q_HO223 (hon 8 (by kernel_rfl)))
 refine value_ (w1 := w') (v := .string t224) (by rfl) rfl ?_ ?_
 {
 go_simp
 (try simp only [i64_w])
 try rfl}
 refine hK.out _ _ ⟨v212, adz_v212, v222, m3_, (by rw [ha.out]; exact putSel_upk 8 hb_ rfl rfl rfl), fun h0_ => absurd ((hon 2 (by kernel_rfl)).symm.trans h0_) (by decide), Q_HK, Q_HB, Q_HO213, Q_HA_HO213, fun _ h1_ => absurd ((hon 6 (by kernel_rfl)).symm.trans h1_) (by decide), Q_HI0_e6, Q_HO223, Q_X3_⟩}
 exact steps_nil}
 rintro b a w17 hall ⟨v212, adz_v212, v222, m3_, ha, Q_HI0, Q_HK, Q_HB, Q_HO213, Q_HA_HO213, Q_HI0_e2, Q_HI0_e6, Q_HO223, Q_X3_⟩
 clear HB HI0 HK
 have hb0_ := hall 0 (by kernel_rfl)
 have hb2_ := hall 2 (by kernel_rfl)
 have hb3_ := hall 3 (by kernel_rfl)
 have hb4_ := hall 4 (by kernel_rfl)
 have hb6_ := hall 6 (by kernel_rfl)
 have hb7_ := hall 7 (by kernel_rfl)
 have hb8_ := hall 8 (by kernel_rfl)
 have hb9_ := hall 9 (by kernel_rfl)
 have hb10_ := hall 10 (by kernel_rfl)
 subst ha
 obtain rfl := Q_X3_ hb3_
 simp only [putSel, hb0_, hb2_, hb3_, hb4_, hb6_, hb7_, hb8_, hb9_, hb10_, if_true, Act.put, List.setIfInBounds_toArray, List.set_cons_zero, List.set_cons_succ]
 clear Q_HI0
 have HK := Aside0.mk Q_HK
 clear Q_HK
 have HB := Aside0.mk Q_HB
 clear Q_HB
 have HO213 := Aside0.mk (Q_HO213 hb0_)
 clear Q_HO213
 have HA_HO213 := Aside0.mk (Q_HA_HO213 hb0_)
 clear Q_HA_HO213
 clear Q_HI0_e2
 have HI0 := Aside0.mk (Q_HI0_e6 hb6_)
 clear Q_HI0_e6
 have HO223 := Aside0.mk (Q_HO223 hb8_)
 clear Q_HO223
 clear hall hb0_ hb2_ hb3_ hb4_ hb6_ hb7_ hb8_ hb9_ hb10_
 obtain ⟨co18, eo18⟩ := HA_HO213.out
 clear HA_HO213
 subst eo18
 try go_wp2
 go_ret
 exact ⟨eR_, is72_ HI0, bwg_ HB (IsS72.ge HI0.out), kb_ HK⟩}
 {
 rw [if_neg c4] at H
 exact absurd H (by simp)}}
 {
 rw [if_neg c3] at H
 exact absurd H (by simp)
}
def spec_l10DrawData.j0 : Nat → ByteArray → List Int → Int → Int → Option (ByteArray × Int × Int)
 | 0, _, _, _, _ => none
 | k + 1, x3, x1000, x1001, x1002 => (spec_l1Once.f x1000 x1001 x1002 100).bind fun bt239 => (if bt239.1 = true then ((spec_l1Below.f x1000 bt239.2.1 bt239.2.2 2).bind fun bt242 => (if 0 ≤ (wrap64 (20000 + bt242.1)) then (if (wrap64 (20000 + bt242.1) : Int).toNat ≤ 281474976710656 then (some (strOfNums (List.replicate (wrap64 (20000 + bt242.1) : Int).toNat 0), bt242.2.1, bt242.2.2)) else (none)) else (none))) else (some (x3, bt239.2.1, bt239.2.2)))
def spec_l10DrawData.f (k : Nat) (s0_0 : List Int) (s0_1 : Int) (s0_2 : Int) : Option (ByteArray × Int × Int) := (spec_l1Below.f s0_0 s0_1 s0_2 6).bind fun bt225 => ((spec_l1Some.f k s0_0 bt225.2.1 bt225.2.2 bt225.1).bind fun bt228 => ((spec_l1Once.f s0_0 bt228.2.1 bt228.2.2 3).bind fun bt233 => (if bt233.1 = true then ((spec_l10DrawAddress.f k s0_0 bt233.2.1 bt233.2.2).bind fun bt236 => (if (strOfNums bt228.1).size + bt236.1.size ≤ 9223372036854775807 then (if ((strOfNums bt228.1) ++ bt236.1).size + 2 ≤ 9223372036854775807 then (spec_l10DrawData.j0 k (((strOfNums bt228.1) ++ bt236.1) ++ (⟨#[47, 120]⟩ : ByteArray)) s0_0 bt236.2.1 bt236.2.2) else (none)) else (none))) else (spec_l10DrawData.j0 k (strOfNums bt228.1) s0_0 bt233.2.1 bt233.2.2))))
theorem spec_l10DrawData.calls (k : Nat) (g : Nat) (s0_0 : List Int) (s0_1 : Int) (s0_2 : Int) (r1 : ByteArray) (r2 : Int) (r3 : Int) (w0 w : World) (hI : IsS72 w0 w g s0_0 s0_1 s0_2) (hB : Below w0.heap.size w0 w) (h : spec_l10DrawData.f k s0_0 s0_1 s0_2 = some (r1, r2, r3)) :
 Calls Tryd.prog 50 #[.pointer (some ⟨g, 0, none⟩)] w fun e w' => e = .returned (.string r1) ∧ IsS72 w0 w' g s0_0 r2 r3 ∧ Below w0.heap.size w0 w' ∧ KeepBut w w' g none := by
 have HI0 := Aside0.mk hI
 have HK := Aside0.mk (KeepBut.refl w g none)
 have HL := Aside0.mk hB.size
 clear hI
 have HW0 := Aside0.mk hB.size
 have HB := Aside0.mk hB
 clear hB
 have H : ((spec_l1Below.f s0_0 s0_1 s0_2 6).bind fun bt225 => ((spec_l1Some.f k s0_0 bt225.2.1 bt225.2.2 bt225.1).bind fun bt228 => ((spec_l1Once.f s0_0 bt228.2.1 bt228.2.2 3).bind fun bt233 => (if bt233.1 = true then ((spec_l10DrawAddress.f k s0_0 bt233.2.1 bt233.2.2).bind fun bt236 => (if (strOfNums bt228.1).size + bt236.1.size ≤ 9223372036854775807 then (if ((strOfNums bt228.1) ++ bt236.1).size + 2 ≤ 9223372036854775807 then (spec_l10DrawData.j0 k (((strOfNums bt228.1) ++ bt236.1) ++ (⟨#[47, 120]⟩ : ByteArray)) s0_0 bt236.2.1 bt236.2.2) else (none)) else (none))) else (spec_l10DrawData.j0 k (strOfNums bt228.1) s0_0 bt233.2.1 bt233.2.2))))) = some (r1, r2, r3) := h
 clear h
 replace H := Option.bind_eq_some_iff.mp H
 obtain ⟨⟨t225, t226, t227⟩, A20, H⟩ := H
 have A2 := Aside0.mk A20
 clear A20
 replace H := Option.bind_eq_some_iff.mp H
 obtain ⟨⟨t228, t231, t232⟩, A30, H⟩ := H
 have A3 := Aside0.mk A30
 clear A30
 replace H := Option.bind_eq_some_iff.mp H
 obtain ⟨⟨t233, t234, t235⟩, A40, H⟩ := H
 have A4 := Aside0.mk A40
 clear A40
 have HC5 := Aside0.mk H
 clear H
 go_enter Tryd.func50, Tryd.ntmps50
 go_upto_if 10 with (first | ((with_reducible refine gate_callee (f := 32) rfl ?_); refine gL_ (some 6) Tryd.func32 #[.pointer (some ⟨g, 0, none⟩), .int .i64 6] ?_; (with_reducible refine (spec_l1Below.calls g s0_0 s0_1 s0_2 6 t225 t226 t227 w0 _ ?side1 ?side2 A2.out).mono ?_); (case side1 => exact is72_ HI0); (case side2 => repeat (first | (with_reducible first | exact HB.out | apply below_alloc | apply pw_below_drewN | apply below_drew1 | refine below_set ?_ (IsS72.ge HI0.out)) | exact HB.out)); rintro e w6 ⟨rfl, hi, hb, hk⟩; refine ⟨_, rfl, ?_⟩; replace HK := Aside0.mk (KeepBut.trans (kb_ HK) hk (.inl rfl)); replace HB := Aside0.mk (hb); replace HI0 := Aside0.mk (hi); clear hb hk hi) | ((with_reducible refine gate_callee (f := 64) rfl ?_); refine gL_ (some 7) Tryd.func64 #[.pointer (some ⟨g, 0, none⟩), .int .i64 t225] ?_; (with_reducible refine (spec_l1Some.calls k g s0_0 t226 t227 t225 t228 t231 t232 w0 _ ?side1 ?side2 A3.out).mono ?_); (case side1 => exact is72_ HI0); (case side2 => repeat (first | (with_reducible first | exact HB.out | apply below_alloc | apply pw_below_drewN | apply below_drew1 | refine below_set ?_ (IsS72.ge HI0.out)) | exact HB.out)); rintro e w7 ⟨v229, rfl, ho0, hi, hb, hk⟩; refine ⟨_, rfl, ?_⟩; have HO230 := Aside0.mk (Kd.R_lower ho0 (keep_size (w := w) (g := g) (row := none) (kb_ HK))); replace HK := Aside0.mk (KeepBut.trans (kb_ HK) hk (.inl rfl)); replace HB := Aside0.mk (hb); replace HI0 := Aside0.mk (hi); clear hb hk hi; (try clear ho0); have hcv8 := own_string (P := Tryd.prog) Tryd.underlying22 Tryd.underlying5 Tryd.underlying9 (Kd.own_of_R HO230.out)) | ((with_reducible refine gate_callee (f := 47) rfl ?_); refine gL_ (some 10) Tryd.func47 #[.pointer (some ⟨g, 0, none⟩), .int .i64 3] ?_; (with_reducible refine (spec_l1Once.calls g s0_0 t231 t232 3 t233 t234 t235 w0 _ ?side1 ?side2 A4.out).mono ?_); (case side1 => exact is72_ HI0); (case side2 => repeat (first | (with_reducible first | exact HB.out | apply below_alloc | apply pw_below_drewN | apply below_drew1 | refine below_set ?_ (IsS72.ge HI0.out)) | exact HB.out)); rintro e w9 ⟨rfl, hi, hb, hk⟩; refine ⟨_, rfl, ?_⟩; replace HO230 := Aside0.mk (Kd.R_mono (Kd.R_keep (IsS72.apart (show IsS72 w0 _ g s0_0 t231 t232 from is72_ HI0) (kr_ HO230) (by decide)) hk (fun _ h => h.2)) (fun _ h => h.1)); replace HK := Aside0.mk (KeepBut.trans (kb_ HK) hk (.inl rfl)); replace HB := Aside0.mk (hb); replace HI0 := Aside0.mk (hi); clear hb hk hi))
 (try simp only [Act.put, List.setIfInBounds_toArray, List.set_cons_zero, List.set_cons_succ])
 go_cut [3] (fun v3 wc => ∃ (kq : Nat) (x3_4 : ByteArray) (x1001_4 : Int) (x1002_4 : Int), v3 = .string x3_4 ∧ Aside0 (spec_l10DrawData.j0 kq x3_4 s0_0 x1001_4 x1002_4 = some (r1, r2, r3)) ∧ Aside0 (kq ≤ k) ∧ Aside0 (IsS72 w0 wc g s0_0 x1001_4 x1002_4) ∧ Aside0 (KeepBut w wc g none) ∧ Aside0 (Below w0.heap.size w0 wc))
 case first =>
  have H := HC5.out
  clear HC5
  by_cases c10 : t233 = true
  {
  subst c10
  rw [if_pos rfl] at H
  replace H := Option.bind_eq_some_iff.mp H
  obtain ⟨⟨t236, t237, t238⟩, A110, H⟩ := H
  have A11 := Aside0.mk A110
  clear A110
  by_cases c12 : (strOfNums t228).size + t236.size ≤ 9223372036854775807
  {
  rw [if_pos c12] at H
  have c12b0 := eq_true c12
  have c12b1 := decide_eq_true c12
  try have c12b2 : (9223372036854775807 < (strOfNums t228).size + t236.size) = False := eq_false (Nat.not_lt.2 c12)
  by_cases c13 : ((strOfNums t228) ++ t236).size + 2 ≤ 9223372036854775807
  {
  rw [if_pos c13] at H
  have c13b0 := eq_true c13
  have c13b1 := decide_eq_true c13
  (try (have c13b1s := c13b1; simp only [ByteArray.size_append] at c13b1s; have c13b1q := eq_true (of_decide_eq_true c13b1s)))
  (try (have c13b1n := eq_false (Nat.not_lt.2 (of_decide_eq_true c13b1s))))
  (try (have c13b1t := c13b1; simp only [ByteArray.size_append, Int.natCast_add] at c13b1t; have c13b1u := eq_true (of_decide_eq_true c13b1t)))
  try have c13b2 : (9223372036854775807 < ((strOfNums t228) ++ t236).size + 2) = False := eq_false (Nat.not_lt.2 c13)
  have H' := Aside0.mk H
  clear H
  go_wp2_with (first | ((with_reducible refine gate_callee (f := 65) rfl ?_); refine gL_ (some 13) Tryd.func65 #[.pointer (some ⟨g, 0, none⟩)] ?_; (with_reducible refine (spec_l10DrawAddress.calls k g s0_0 t234 t235 t236 t237 t238 w0 _ ?side1 ?side2 A11.out).mono ?_); (case side1 => exact is72_ HI0); (case side2 => repeat (first | (with_reducible first | exact HB.out | apply below_alloc | apply pw_below_drewN | apply below_drew1 | refine below_set ?_ (IsS72.ge HI0.out)) | exact HB.out)); rintro e w14 ⟨rfl, hi, hb, hk⟩; refine ⟨_, rfl, ?_⟩; replace HO230 := Aside0.mk (Kd.R_mono (Kd.R_keep (IsS72.apart (show IsS72 w0 _ g s0_0 t234 t235 from is72_ HI0) (kr_ HO230) (by decide)) hk (fun _ h => h.2)) (fun _ h => h.1)); replace HK := Aside0.mk (KeepBut.trans (kb_ HK) hk (.inl rfl)); replace HB := Aside0.mk (hb); replace HI0 := Aside0.mk (hi); clear hb hk hi))
  go_meet
  case rel => exact ⟨_, (((strOfNums t228) ++ t236) ++ (⟨#[47, 120]⟩ : ByteArray)), (t237), (t238), (by first | rfl | (simp; done) | (simp [*]; done)), H', ⟨by first | omega | exact Nat.le_refl _⟩, ⟨is72_ HI0⟩, ⟨kb_ HK⟩, ⟨bwg_ HB (IsS72.ge HI0.out)⟩⟩}
  {
  rw [if_neg c13] at H
  exact absurd H (by simp)}}
  {
  rw [if_neg c12] at H
  exact absurd H (by simp)}}
  {
  replace c10 := Bool.eq_false_iff.mpr c10
  subst c10
  rw [if_neg (show ¬ (false = true) by decide)] at H
  have H' := Aside0.mk H
  clear H
  go_wp2
  go_meet
  case rel => exact ⟨_, (strOfNums t228), (t234), (t235), (by first | rfl | (simp; done) | (simp [*]; done)), H', ⟨by first | omega | exact Nat.le_refl _⟩, ⟨is72_ HI0⟩, ⟨kb_ HK⟩, ⟨bwg_ HB (IsS72.ge HI0.out)⟩⟩}
 case rest =>
  clear HC5
  try clear c1
  try clear p2
  try clear c3
  try clear c4
  try clear c5
  try clear c6
  try clear hcv8
  try clear c10
  try clear c12
  try clear c12b0
  try clear c12b1
  try clear c12b2
  try clear c13
  try clear c13b0
  try clear c13b1
  try clear c13b2
  obtain ⟨kq, x3_4, x1001_4, x1002_4, rfl, HA, HJ4, HI0, HK, HB⟩ := hcut
  cases kq with
  | zero => exact absurd HA.out (by simp [spec_l10DrawData.j0])
  | succ kj4 =>
   have H := HA.out
   clear HA
   simp only [spec_l10DrawData.j0] at H
   replace H := Option.bind_eq_some_iff.mp H
   obtain ⟨⟨t239, t240, t241⟩, A150, H⟩ := H
   have A15 := Aside0.mk A150
   clear A150
   by_cases c16 : t239 = true
   {
   subst c16
   rw [if_pos rfl] at H
   replace H := Option.bind_eq_some_iff.mp H
   obtain ⟨⟨t242, t243, t244⟩, A170, H⟩ := H
   have A17 := Aside0.mk A170
   clear A170
   obtain ⟨ji18, hji18⟩ : ∃ j_ : Int, (wrap64 (20000 + t242)) = j_ := ⟨_, rfl⟩
   replace H : (if 0 ≤ (ji18) then (if (ji18 : Int).toNat ≤ 281474976710656 then (some (strOfNums (List.replicate (ji18 : Int).toNat 0), t243, t244)) else (none)) else (none)) = some (r1, r2, r3) := by first | (rw [hji18] at H; exact H) | (simp only [hji18] at H ⊢; exact H)
   (try rw [hji18] at A15)
   (try rw [hji18] at A17)
   have hji18w : (IntKind.i64.wrap (20000 + t242)) = ji18 := (i64_w _).trans hji18
   by_cases c19 : 0 ≤ (ji18)
   {
   rw [if_pos c19] at H
   have c19b0 := eq_true c19
   have c19b1 := decide_eq_true c19
   clear c19
   by_cases c20 : (ji18 : Int).toNat ≤ 281474976710656
   {
   rw [if_pos c20] at H
   have c20b0 := eq_true c20
   have c20b1 := decide_eq_true c20
   clear c20
   obtain ⟨y245, hy245⟩ : ∃ y_ : List Int, y_ = (List.replicate (ji18 : Int).toNat 0) := ⟨_, rfl⟩
   replace H : (some (strOfNums y245, t243, t244)) = some (r1, r2, r3) := rH_ hy245 H
   have Ny245 := Aside0.mk hy245
   clear hy245
   simp only [Option.some.injEq, Prod.mk.injEq] at H
   obtain ⟨rfl, rfl, rfl⟩ := H
   go_wp2_with (first | ((with_reducible refine gate_callee (f := 47) rfl ?_); refine gL_ (some 17) Tryd.func47 #[.pointer (some ⟨g, 0, none⟩), .int .i64 100] ?_; (with_reducible refine (spec_l1Once.calls g s0_0 x1001_4 x1002_4 100 true t240 t241 w0 _ ?side1 ?side2 A15.out).mono ?_); (case side1 => exact is72_ HI0); (case side2 => repeat (first | (with_reducible first | exact HB.out | apply below_alloc | apply pw_below_drewN | apply below_drew1 | refine below_set ?_ (IsS72.ge HI0.out)) | exact HB.out)); rintro e w21 ⟨rfl, hi, hb, hk⟩; refine ⟨_, rfl, ?_⟩; replace HK := Aside0.mk (KeepBut.trans (kb_ HK) hk (.inl rfl)); replace HB := Aside0.mk (hb); replace HI0 := Aside0.mk (hi); clear hb hk hi) | ((with_reducible refine gate_callee (f := 32) rfl ?_); refine gL_ (some 19) Tryd.func32 #[.pointer (some ⟨g, 0, none⟩), .int .i64 2] ?_; (with_reducible refine (spec_l1Below.calls g s0_0 t240 t241 2 t242 t243 t244 w0 _ ?side1 ?side2 A17.out).mono ?_); (case side1 => exact is72_ HI0); (case side2 => repeat (first | (with_reducible first | exact HB.out | apply below_alloc | apply pw_below_drewN | apply below_drew1 | refine below_set ?_ (IsS72.ge HI0.out)) | exact HB.out)); rintro e w22 ⟨rfl, hi, hb, hk⟩; refine ⟨_, rfl, ?_⟩; replace HK := Aside0.mk (KeepBut.trans (kb_ HK) hk (.inl rfl)); replace HB := Aside0.mk (hb); replace HI0 := Aside0.mk (hi); clear hb hk hi) | ((with_reducible refine gate_dst (N := 21) rfl ?_); refine Kd.R_make (Kd.int .u8) _ 5 rfl (N := 21) rfl 22 _ _ rfl ji18 rfl rfl Tryd.underlying22 (.int .u8 0) 1 info5 rfl (by decide) (by omega) 0 (ok := fun _ => True) (okp := fun _ => True) rfl (fun _ hk => hk) trivial (dA_) (Nat.le_trans (Nat.mul_le_mul_right _ (dA_ : ji18.toNat ≤ 281474976710656)) (by omega)) (Below.refl _ _) (Nat.le_refl _) ?_; intro v246 w23 ho24 hb hg_ hnew_; clear hg_ hnew_; (first | rw [← Ny245.out] at ho24 | (simp only [Int.reduceToNat] at ho24; rw [← Ny245.out] at ho24)); have HO247 := Aside0.mk (Kd.R_lower ho24 (keep_size (w := w) (g := g) (row := none) (kb_ HK))); replace HK := Aside0.mk (KeepBut.trans (kb_ HK) (KeepBut.of_below hb g none) (.inl rfl)); replace HB := Aside0.mk (below_step (bwg_ HB (IsS72.ge HI0.out)) hb); replace HI0 := Aside0.mk (IsS72.below (is72_ HI0) hb); clear hb ho24; have hcv25 := own_string (P := Tryd.prog) Tryd.underlying22 Tryd.underlying5 Tryd.underlying9 (Kd.own_of_R HO247.out)))
   go_ret
   exact ⟨by first | rfl | (simp [errW_none, errW_some] <;> rfl) | (simp only [← hji18]; first | rfl | (simp [errW_none, errW_some] <;> rfl)) | (simp [*, errW_none, errW_some] <;> rfl), is72_ HI0, bwg_ HB (IsS72.ge HI0.out), kb_ HK⟩}
   {
   rw [if_neg c20] at H
   exact absurd H (by simp)}}
   {
   rw [if_neg c19] at H
   exact absurd H (by simp)}}
   {
   replace c16 := Bool.eq_false_iff.mpr c16
   subst c16
   rw [if_neg (show ¬ (false = true) by decide)] at H
   simp only [Option.some.injEq, Prod.mk.injEq] at H
   obtain ⟨rfl, rfl, rfl⟩ := H
   go_wp2_with (first | ((with_reducible refine gate_callee (f := 47) rfl ?_); refine gL_ (some 17) Tryd.func47 #[.pointer (some ⟨g, 0, none⟩), .int .i64 100] ?_; (with_reducible refine (spec_l1Once.calls g s0_0 x1001_4 x1002_4 100 false t240 t241 w0 _ ?side1 ?side2 A15.out).mono ?_); (case side1 => exact is72_ HI0); (case side2 => repeat (first | (with_reducible first | exact HB.out | apply below_alloc | apply pw_below_drewN | apply below_drew1 | refine below_set ?_ (IsS72.ge HI0.out)) | exact HB.out)); rintro e w26 ⟨rfl, hi, hb, hk⟩; refine ⟨_, rfl, ?_⟩; replace HK := Aside0.mk (KeepBut.trans (kb_ HK) hk (.inl rfl)); replace HB := Aside0.mk (hb); replace HI0 := Aside0.mk (hi); clear hb hk hi))
   go_ret
   exact ⟨eR_, is72_ HI0, bwg_ HB (IsS72.ge HI0.out), kb_ HK⟩
}
end Go.Proofs.YtjnmcgeahomkeaaDoor.P
end
