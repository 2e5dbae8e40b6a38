/- Texts of Trb, put together by program. -/
import Derived.ChangeArms
import Derived.DataReads
import Derived.DataElems
import Derived.WideShapes
import Derived.Test.YtjnmcgeahomkeaaDoorMTrb1
import Derived.Maps.OwnSet
import Derived.Maps.OwnOps
import Derived.StringKeys
import Derived.Shelf.Small.Utf8
import Derived.Shelf.Small.Strs
import Derived.Shelf.Strings.Search1
import Derived.Shelf.Strings.Search2
import Derived.Shelf.Strings.Search3
import Derived.Shelf.Strings.Count
import Derived.Shelf.LaysM
import Derived.Shelf.Strings.Shaped
import Derived.Shelf.Strings.LastIndex
import Derived.Shelf.Strings.Prefix
import Derived.Shelf.Strings.Split
import Derived.Shelf.Strings.SplitShaped
import Derived.Shelf.Unicode.Decode
import Derived.Shelf.Strings.Runes
import Derived.Shelf.Strings.RuneCount
import Derived.Shelf.Strings.Explode
import Derived.Shelf.Unicode.DecodeSlow
import Derived.Test.YtjnmcgeahomkeaaDoorProg
import Derived.Lib.Split
import Derived.Laws.ByValue
import Derived.Lib.SliceRun
import Derived.Lib.Replace
import Derived.Lib.LastIndexByte
import Derived.Lib.CutLaws
import Derived.Laws.IdiomStrings
import Derived.Deep.AppendSrc
import Derived.Lib.ConvBytes
import Derived.Tactics
import Derived.RowKit
import Derived.KernelRfl
import Derived.BigQuiet

section
set_option linter.unusedVariables false
set_option linter.unusedSimpArgs false
namespace Go.Proofs.YtjnmcgeahomkeaaDoorM
open Go.RowKit Go.Proofs.YtjnmcgeahomkeaaDoorW.PrintWords
def Opn {α : Type} (P : Program) (w : World) (t : TypeId) (d : Kd α) (g : α → Prop) : Prop :=
  ∀ (H : Type) (enc : TypeId × Value → H) (base : Nat) (spare : Nat → Bool) (held : Bool) (fuel : Nat) (cs : List Value) (x : DataW H × List MemPlace), DataW.trod enc P w base spare held fuel t cs = some x → ∃ a, d.K w a cs ∧ g a
def OpnF {α : Type} (P : Program) (w : World) (fs : Array Field) (size i off : Nat) (d : Kd α) (g : α → Prop) : Prop :=
  ∀ (H : Type) (enc : TypeId × Value → H) (base : Nat) (spare : Nat → Bool) (held : Bool) (n : Nat) (cs : List Value) (xs : List (DataW H × List MemPlace)), cs.length = size → xs.length = fs.size →
    (∀ (i : Nat) (f : Field), fs[i]? = some f → DataW.trod enc P w base spare held n f.type ((cs.drop f.offset).take (P.cellsOf f.type)) = xs[i]?) → ∃ a, d.K w a (cs.drop off) ∧ g a
section
variable {P : Program} {w : World} {t : TypeId}
theorem Opn.bool (ht : P.underlying t = some .bool) : Opn P w t Kd.bool (fun _ => True) := by
  intro H enc base spare held fuel cs x h
  obtain ⟨b, rfl, _⟩ := DataW.trod_bool ht h
  exact ⟨b, rfl, trivial⟩
theorem Opn.int {k : IntKind} (ht : P.underlying t = some (.int k)) : Opn P w t (Kd.int k) (fun n => (Lit.int k n).wf = true) := by
  intro H enc base spare held fuel cs x h
  obtain ⟨n, rfl, _, hw⟩ := DataW.trod_int ht h
  exact ⟨n, rfl, hw⟩
theorem Opn.string (ht : P.underlying t = some .string) : Opn P w t Kd.string (fun s => s.size ≤ maxLen) := by
  intro H enc base spare held fuel cs x h
  obtain ⟨s, rfl, _, hw⟩ := DataW.trod_string ht h
  exact ⟨s, rfl, hw⟩
theorem Opn.iso {α β : Type} {d : Kd α} {g : α → Prop} (f : β → α) (fi : α → β) (hf : ∀ a, f (fi a) = a) (h : Opn P w t d g) : Opn P w t (Kd.iso d f) (fun b => g (f b)) := by
  intro H enc base spare held fuel cs x hx
  obtain ⟨a, ha, hg⟩ := h H enc base spare held fuel cs x hx
  refine ⟨fi a, ?_, ?_⟩
  · show d.K w (f (fi a)) cs
    rw [hf]; exact ha
  · show g (f (fi a))
    rw [hf]; exact hg
theorem OpnF.last {α : Type} {d : Kd α} {g : α → Prop} {fs : Array Field} {size i off : Nat} (f : Field) (hf : fs[i]? = some f) (ho : f.offset = off) (hs : off + P.cellsOf f.type = size) (h : Opn P w f.type d g) : OpnF P w fs size i off d g := by
  intro H enc base spare held n cs xs hc hx he
  have h1 := he i f hf
  have hi : i < xs.length := by
    rw [hx]
    exact (Array.getElem?_eq_some_iff.1 hf).1
  rw [List.getElem?_eq_getElem hi, ho, List.take_of_length_le (by rw [List.length_drop]; omega)] at h1
  exact h H enc base spare held n _ _ h1
theorem OpnF.cons {α β : Type} {d1 : Kd α} {d2 : Kd β} {g1 : α → Prop} {g2 : β → Prop} {fs : Array Field} {size i off off' : Nat} (f : Field) (hf : fs[i]? = some f) (ho : f.offset = off) (hs : off + P.cellsOf f.type = off') (h : Opn P w f.type d1 g1)
    (hr : OpnF P w fs size (i + 1) off' d2 g2) : OpnF P w fs size i off (Kd.pair d1 d2) (fun x => g1 x.1 ∧ g2 x.2) := by
  intro H enc base spare held n cs xs hc hx he
  have h1 := he i f hf
  have hi : i < xs.length := by
    rw [hx]
    exact (Array.getElem?_eq_some_iff.1 hf).1
  rw [List.getElem?_eq_getElem hi, ho] at h1
  obtain ⟨a, ha, hga⟩ := h H enc base spare held n _ _ h1
  obtain ⟨b, hb, hgb⟩ := hr H enc base spare held n cs xs hc hx he
  refine ⟨(a, b), ⟨_, _, ?_, ha, hb⟩, hga, hgb⟩
  rw [← hs, ← List.drop_drop, List.take_append_drop]
theorem Opn.struct {α : Type} {d : Kd α} {g : α → Prop} {fs : Array Field} (ht : P.underlying t = some (.struct fs)) (h : OpnF P w fs (P.cellsOf t) 0 0 d g) : Opn P w t d g := by
  intro H enc base spare held fuel cs x hx
  obtain ⟨xs, n, rfl, rfl, hc, hl, he⟩ := DataW.trod_struct ht hx
  exact h H enc base spare held n cs xs hc hl he
theorem choose_list {α : Type} {p : Nat → α → Prop} : ∀ n, (∀ i, i < n → ∃ a, p i a) → ∃ l : List α, l.length = n ∧ ∀ i a, l[i]? = some a → p i a
  | 0, _ => ⟨[], rfl, fun i a h => by simp at h⟩
  | n + 1, h => by
    obtain ⟨l, hl, hp⟩ := choose_list n (fun i hi => h i (by omega))
    obtain ⟨a, ha⟩ := h n (by omega)
    refine ⟨l ++ [a], by simp [hl], fun i b hb => ?_⟩
    rcases Nat.lt_or_ge i n with h1 | h1
    · rw [List.getElem?_append_left (by omega)] at hb
      exact hp i b hb
    · have h2 := (List.getElem?_eq_some_iff.1 hb).1
      simp only [List.length_append, List.length_cons, List.length_nil] at h2
      obtain rfl : i = n := by omega
      rw [List.getElem?_append_right (by omega), hl, Nat.sub_self] at hb
      simp at hb
      subst hb
      exact ha
theorem Opn.slice {α : Type} {d : Kd α} {g : α → Prop} {e : TypeId} (ht : P.underlying t = some (.slice e)) (hz : P.cellsOf e = d.sz) (h : Opn P w e d g) : Opn P w t (Kd.slice e d) (fun l => l.length ≤ maxLen ∧ ∀ a ∈ l, g a) := by
  intro H enc base spare held fuel cs x hx
  rcases DataW.trod_slice ht hx with ⟨rfl, rfl⟩ | ⟨a, len, cap, elems, rest, n, _, rfl, rfl, hb, hl, hm, hlen, hel, _, _⟩
  · exact ⟨[], ⟨none, 0, rfl, Nat.le_refl _, rfl, by simp, fun h0 => absurd h0 (Nat.lt_irrefl 0)⟩, by simp, fun a ha => by cases ha⟩
  · obtain ⟨l, hll, hp⟩ := choose_list (p := fun i v => (∃ c, c.length = d.sz ∧ d.K w v c ∧ ∀ j u, c[j]? = some u → w.cell? (a.add (i * d.sz + j)) = some u) ∧ g v) len (fun i hi => by
      have h1 := hel i hi
      rw [List.getElem?_eq_getElem (by omega), Option.bind_eq_some_iff] at h1
      obtain ⟨c, hc, h2⟩ := h1
      obtain ⟨v, hv, hg⟩ := h H enc base spare held n c _ h2
      obtain ⟨_, hcl, hcell⟩ := World.cells?_some hc
      refine ⟨v, ⟨c, by rw [hcl, hz], hv, fun j u hu => ?_⟩, hg⟩
      have hj := (List.getElem?_eq_some_iff.1 hu).1
      have h3 := hcell j (by omega)
      rw [Addr.add_add, hz] at h3
      rw [h3, hu])
    refine ⟨l, ⟨some a, cap, by rw [hll], by omega, rfl, by simp only [maxLen] at hm; omega, fun _ => ⟨a, rfl, fun j p hj => ?_⟩⟩, by omega, fun v hv => ?_⟩
    · obtain ⟨⟨c, hcl, hk, hcell⟩, _⟩ := hp j p hj
      exact ⟨c, hcl, hk, hcell⟩
    · obtain ⟨i, hi⟩ := List.getElem?_of_mem hv
      exact (hp i v hi).2
theorem Opn.arg {α : Type} {d : Kd α} {g : α → Prop} (h : Opn P w t d g) {H : Type} {enc : TypeId × Value → H} {base : Nat} {spare : Nat → Bool} {held : Bool} {v : Value} {dd : DataW H} {ps : List MemPlace} (hd : DataW.Trod enc P w base spare held t v dd ps) :
    ∃ a, d.K w a v.cells.toList ∧ g a := by
  obtain ⟨fuel, hf⟩ := hd
  exact h H enc base spare held fuel _ _ hf
theorem Opn.argSlice {α : Type} {d : Kd α} {g : α → Prop} {e : TypeId} (ht : P.underlying t = some (.slice e)) (hz : P.cellsOf e = d.sz) (h : Opn P w e d g) {H : Type} {enc : TypeId × Value → H} {spare : Nat → Bool} {held : Bool} {v : Value} {dd : DataW H} {ps : List MemPlace} {b : Nat} {r : Reach}
    (hv : Value.okWide P w r b t v) (hd : DataW.Trod enc P w 0 spare held t v dd ps) :
    ∃ (l : List α) (A : Option Addr) (c : Nat), v = .slice A l.length c ∧ l.length ≤ c ∧ d.C w A l.length l ∧ l.length ≤ maxLen ∧ ∀ a ∈ l, g a := by
  obtain ⟨A0, len, cap, rfl⟩ := WideShapes.okWide_slice ht hv
  obtain ⟨l, ⟨A, c, e1, hc, hr⟩, hl, hg⟩ := (Opn.slice ht hz h).arg hd
  simp only [Value.cells, List.cons.injEq, and_true] at e1
  exact ⟨l, A, c, e1, hc, hr, hl, hg⟩
end
end Go.Proofs.YtjnmcgeahomkeaaDoorM
end

section
set_option linter.unusedVariables false
set_option linter.unusedSimpArgs false
namespace Go.Proofs.YtjnmcgeahomkeaaDoorM
open Go.RowKit Go.Maps Go.Proofs.YtjnmcgeahomkeaaDoorW.PrintWords
def mgetD {κ α : Type} [DecidableEq κ] (z : α) (m : List (κ × α)) (s : κ) : α := m.foldl (fun a p => if p.1 = s then p.2 else a) z
structure EK (α : Type) where
  enc : α → Value
  den : α → DataW Unit
  R : Value → Option (DataW Unit × List MemPlace)
  R_enc : ∀ x, R (enc x) = some (den x, [])
  R_inv : ∀ v x ps, R v = some (den x, ps) → v = enc x
def ekI64 : EK Int where
  enc x := .int .i64 x
  den x := .lit (.int .i64 x)
  R v := match v with
    | .int .i64 a => some (.lit (.int .i64 a), [])
    | _ => none
  R_enc _ := rfl
  R_inv v x ps h := by
    split at h
    · injection h with h
      injection h with h _
      injection h with h
      injection h with _ h
      rw [h]
    · cases h
def ekBool : EK Bool where
  enc x := .bool x
  den x := .lit (.bool x)
  R v := match v with
    | .bool a => some (.lit (.bool a), [])
    | _ => none
  R_enc _ := rfl
  R_inv v x ps h := by
    split at h
    · injection h with h
      injection h with h _
      injection h with h
      injection h with h
      rw [h]
    · cases h
structure KK (P : Program) (k : TypeId) (κ : Type) where
  enc : κ → Value
  lit : κ → Lit
  inj : ∀ a b, lit a = lit b → a = b
  isKey : ∀ a, WideAt.IsKeyLit (lit a)
  keyed : Keyed P k
  ok : κ → Prop
  key : ∀ a, ok a → keyOf P k (enc a) = some (lit a)
def kkStr (P : Program) (k : TypeId) (h : P.underlying k = some .string) : KK P k ByteArray where
  enc s := .string s
  lit s := .string s.data.toList
  inj a b h := by
    injection h with h
    cases a with
    | mk a => cases b with
      | mk b => exact congrArg ByteArray.mk (Array.toList_inj.1 h)
  isKey _ := trivial
  keyed := string_keyed h
  ok s := s.size ≤ 9223372036854775807
  key s hs := WideMaps.keyOf_string_mk h hs
section
variable {P : Program} {k : TypeId} {κ α : Type} (X : KK P k κ) (Y : EK α)
def den (m : List (κ × α)) : DataW Unit := m.foldl (fun D p => D.put (X.lit p.1) (Y.den p.2)) (.map [])
theorem den_isMap (m : List (κ × α)) : IsMap (den X Y m) := by
  unfold den
  have : ∀ (m : List (κ × α)) (D : DataW Unit), IsMap D → IsMap (m.foldl (fun D p => D.put (X.lit p.1) (Y.den p.2)) D) := by
    intro m
    induction m with
    | nil => exact fun D h => h
    | cons p m ih => exact fun D h => ih _ (h.put _ _)
  exact this m _ isMap_empty
theorem den_snoc (m : List (κ × α)) (s : κ) (x : α) : den X Y (m ++ [(s, x)]) = (den X Y m).put (X.lit s) (Y.den x) := by
  unfold den
  rw [List.foldl_append]
  rfl
theorem mgetD_snoc [DecidableEq κ] (z : α) (m : List (κ × α)) (s : κ) (x : α) (t : κ) : mgetD z (m ++ [(s, x)]) t = if s = t then x else mgetD z m t := by
  unfold mgetD
  rw [List.foldl_append]
  rfl
theorem den_get [DecidableEq κ] (z : α) (s : κ) (m : List (κ × α)) : (den X Y m).atKey (X.lit s) (Y.den z) = Y.den (mgetD z m s) := by
  have : ∀ n (m : List (κ × α)), m.length = n → (den X Y m).atKey (X.lit s) (Y.den z) = Y.den (mgetD z m s) := by
    intro n
    induction n with
    | zero =>
      intro m hm
      obtain rfl := List.eq_nil_of_length_eq_zero hm
      rfl
    | succ n ih =>
      intro m hm
      have hne : m ≠ [] := fun h => by simp [h] at hm
      obtain ⟨m', p, rfl⟩ : ∃ m' p, m = m' ++ [p] := ⟨m.dropLast, m.getLast hne, (List.dropLast_concat_getLast hne).symm⟩
      have hl : m'.length = n := by simpa using hm
      rw [den_snoc, mgetD_snoc]
      by_cases h : p.1 = s
      · rw [if_pos h, h]
        exact atKey_put_same (den_isMap X Y m') (X.isKey s) _ _
      · rw [if_neg h, atKey_put_other (fun e => h (X.inj _ _ e).symm)]
        exact ih m' hl
  exact this _ m rfl
def MapAt (W : World) (g : Nat) (m : List (κ × α)) : Prop := W.ownsMap P k Y.R g m.length (den X Y m)
variable {X Y} {W W1 w1 : World} {g : Nat} {m : List (κ × α)}
theorem MapAt.lt (h : MapAt X Y W g m) : g < W.heap.size := World.ownsMap.lt h
theorem MapAt.obj (h : MapAt X Y W g m) : ∃ es c, W.heap[g]? = some (.map es c) := by
  obtain ⟨es, c, hb, _⟩ := h
  exact ⟨es, c, hb⟩
theorem MapAt.move (h : MapAt X Y W g m) (hm : W1.heap[g]? = W.heap[g]?) : MapAt X Y W1 g m := by
  obtain ⟨es, c, hb, hr⟩ := h
  exact ⟨es, c, hm.trans hb, hr⟩
theorem MapAt.alloc (h : MapAt X Y W g m) (o : Obj) : MapAt X Y (W.alloc o) g m := World.ownsMap.alloc h o
theorem MapAt.drew (h : MapAt X Y W g m) : MapAt X Y W.drew g m := h
theorem MapAt.drewN (h : MapAt X Y W g m) (n : Nat) : MapAt X Y (W.drewN n) g m := h
theorem MapAt.set_ (h : MapAt X Y W g m) (p : Addr) (u : Value) : MapAt X Y (W.setCell p u) g m := by
  obtain ⟨es, c, hb, hr⟩ := h
  refine ⟨es, c, ?_, hr⟩
  unfold World.setCell
  simp only [Array.getElem?_modify, hb]
  by_cases e : p.block = g <;> simp [e, hb]
theorem MapAt.below (h : MapAt X Y W g m) (hb : Below W.heap.size W W1) : MapAt X Y W1 g m := h.move (hb.block g h.lt)
theorem MapAt.at_ {W0 : World} (hq : W = W0) (h : MapAt X Y W g m) : MapAt X Y W0 g m := hq ▸ h
theorem MapAt.grown {v : Value} {e : Nat} (h : MapAt X Y W g m) (hty : ∀ q, v.ownBlock = some q → ∃ cells, W.heap[q]? = some (.cells cells e (0, 0))) (hg : W.grownBy W1 v.ownBlock) : MapAt X Y W1 g m := by
  refine h.move (hg.block g h.lt ?_)
  intro he
  obtain ⟨cells, hc⟩ := hty g he.symm
  obtain ⟨es, c, hm⟩ := h.obj
  rw [hm] at hc
  cases hc
theorem far_blk {gb : Nat} {t : TypeId} {cs : Array Value} (hm : MapAt X Y W g m) (hg : W.grownBy W1 (some g)) (h : W.heap[gb]? = some (.cells cs t (0, 0))) : W1.heap[gb]? = some (.cells cs t (0, 0)) := by
  have hlt := (Array.getElem?_eq_some_iff.1 h).1
  refine (hg.block gb hlt ?_).trans h
  intro he
  injection he with he
  subst he
  obtain ⟨es, c, hm⟩ := hm.obj
  rw [hm] at h
  cases h
theorem far_below {B : Nat} {w : World} (hB : B ≤ g) (hBW : B ≤ W.heap.size) (hg : W.grownBy W1 (some g)) (h : Below B w W) : Below B w W1 := h.grown hg hBW (fun q hq => by injection hq with hq; omega)
end
section
variable {P : Program} {ops : Array Oper} {rest : List Oper} {o : Oper} {a : Act} {Q : Exit → Act → World → Prop} {W : World} {k : TypeId} {κ α : Type}
theorem map_new (X : KK P k κ) (Y : EK α) (hgd : o.guard = none) {N : Tmp} (_hd : o.dst = some N) (t : TypeId) (ho : o.op = .makeMap t none)
    (h : ∀ g, g = W.heap.size → ∀ w1, MapAt X Y w1 g [] → Below W.heap.size W w1 → wpList P ops Q rest (a.put o.dst (.map (some g))) w1) : wpList P ops Q (o :: rest) a W := by
  refine wpList_plain hgd fun K hK => ?_
  unfold Oper.wp
  have hr : (execOp a.eval o).run P W = .ok (.value (.map (some W.heap.size))) (W.alloc (.map #[] 0)) := by
    simp [execOp, ho, run_makeMap, Result.andThen]
  rw [hr]
  exact hK _ _ (h _ rfl _ (World.ownsMap_made W P k Y.R) (below_alloc (Below.refl _ _) _))
theorem map_look [DecidableEq κ] (X : KK P k κ) (Y : EK α) (hgd : o.guard = none) {N : Tmp} (_hd : o.dst = some N) (t e : TypeId) (x y : Operand) (ho : o.op = .lookup t x y false) (z : α)
    (ht : P.underlying t = some (.map k e)) (hz : (zeroValue e).run P W = .ok (Y.enc z) W) (g : Nat) (m : List (κ × α)) (s : κ) (hx : a.eval x = .map (some g)) (hy : a.eval y = X.enc s) (hok : X.ok s)
    (HM : MapAt X Y W g m) (h : wpList P ops Q rest (a.put o.dst (Y.enc (mgetD z m s))) W) : wpList P ops Q (o :: rest) a W := by
  refine wpList_plain hgd fun K hK => ?_
  obtain ⟨v, ps, hrun, hv⟩ := World.ownsMap.lookup HM X.keyed ht hz (Y.R_enc z) (X.key s hok)
  rw [den_get] at hv
  obtain rfl := Y.R_inv _ _ _ hv
  unfold Oper.wp
  simp [execOp, ho, hx, hy, hrun, Result.andThen]
  exact hK _ _ h
theorem map_put (X : KK P k κ) (Y : EK α) (hgd : o.guard = none) (t e : TypeId) (p : Tmp) (y v : Operand) (ho : o.op = .mapUpdate t (.tmp p) y v)
    (ht : P.underlying t = some (.map k e)) (g : Nat) (m : List (κ × α)) (s : κ) (x : α) (hx : a.eval (.tmp p) = .map (some g)) (hy : a.eval y = X.enc s) (hok : X.ok s) (hv : a.eval v = Y.enc x)
    (HM : MapAt X Y W g m) (hn : m.length < 1099511627776) (h : ∀ w1, MapAt X Y w1 g (m ++ [(s, x)]) → W.grownBy w1 (some g) → wpList P ops Q rest (a.put o.dst undef) w1) : wpList P ops Q (o :: rest) a W := by
  refine wpList_plain hgd fun K hK => ?_
  obtain ⟨w', hrun, r1, r2⟩ := World.ownsMap.update HM X.keyed ht (by simp only [maxLen]; omega) (X.key s hok) (Y.R_enc x)
  unfold Oper.wp
  simp [execOp, ho, hx, hy, hv, hrun, Result.andThen]
  refine hK _ _ (h w' ?_ r2)
  unfold MapAt
  rw [den_snoc, List.length_append]
  exact r1
theorem gate_put {t : TypeId} {p : Tmp} {y v : Operand} (_ho : o.op = .mapUpdate t (.tmp p) y v) (h : wpList P ops Q (o :: rest) a W) : wpList P ops Q (o :: rest) a W := h
theorem conv_bytes (hgd : o.guard = none) {N : Tmp} (_hd : o.dst = some N) (src dst e : TypeId) (x : Operand) (ho : o.op = .convert src dst x) {u : TypeDesc} (hs : P.underlying src = some u) (hdt : P.underlying dst = some (.slice e)) (he : P.underlying e = some (.int .u8))
    (s : ByteArray) (hx : a.eval x = .string s) (hn : s.size ≤ 9223372036854775807) (y : List Int) (hy : y = bytesOf s)
    (h : ∀ A c w1, (Kd.int .u8).C w1 A y.length y → y.length ≤ c → Below W.heap.size W w1 → wpList P ops Q rest (a.put o.dst (.slice A y.length c)) w1) : wpList P ops Q (o :: rest) a W := by
  subst hy
  refine wpList_plain hgd fun K hK => ?_
  have hr : (execOp a.eval o).run P W = .ok (.value (.slice (some ⟨W.heap.size, 0, none⟩) s.size (grownCap W s.size 0 e))) (Lib.bytesWorld W e s) := by
    simp [execOp, ho, hx, print_bytes (P := P) src dst e hs hdt he s W, Result.andThen]
  unfold Oper.wp
  rw [hr]
  refine hK _ _ ?_
  have hl := bytesOf_length s
  have hc := bytes_reads W e s hn
  rw [← hl] at hc ⊢
  exact h _ _ _ (Kd.C_of_reads (h1 := fun _ => rfl) (readsInt_of.1 hc)) (by rw [hl]; exact grownCap_ge W s.size 0 e) (bytes_below (Below.refl _ _) (Nat.le_refl _) e s)
theorem print_append_str_step {Kc : Act → World → Prop} {w0 : World} (base : Nat) (hw : Region.wanted o (yielded ops a.tmps) = true) (s x : Operand) (t u e : TypeId)
    (ho : o.op = .call { callee := .builtin .append, args := #[s, x], argTypes := #[t, u] })
    (ht : P.underlying t = some (.slice e)) (hu : P.underlying u = some .string) (hinfo : (P.info? e).map (fun i => (i.zero, i.size, i.bytes)) = some (some (.int .u8 0), 1, 1))
    (v : Value) (xs : List Int) (y : ByteArray) (hs : a.eval s = v) (hx : a.eval x = .string y)
    (HO : W.ownsRow base e 1 v xs.length (nums .u8 xs)) (HB : Below base w0 W) (hbase : base ≤ W.heap.size) (hl : xs.length + y.size ≤ 140737488355328)
    (h : ∀ v1 w1, w1.ownsRow base e 1 v1 (xs ++ bytesOf y).length (nums .u8 (xs ++ bytesOf y)) → Below base w0 w1 → W.grownBy w1 v.ownBlock → Kc (a.put o.dst v1) w1) :
    if Region.wanted o (yielded ops a.tmps) = true then Oper.wp P o a W Kc Q else Kc (a.put o.dst undef) W := by
  obtain ⟨i0, hi, hzz⟩ := Option.map_eq_some_iff.1 hinfo
  simp only [Prod.mk.injEq] at hzz
  obtain ⟨hz0, hz1, hz2⟩ := hzz
  obtain ⟨v1, w1, hr, hown, hg, _⟩ := Lib.run_append_own_string (P := P) W base t u o.type e i0 ht hu hi hz0 hz1 hz2 v xs.length (nums .u8 xs) HO y (by simp only [maxLen]; omega) hl hbase
  have hl2 : (xs ++ bytesOf y).length = xs.length + y.size := by rw [List.length_append, bytesOf_length]
  have hc : nums .u8 (xs ++ bytesOf y) = nums .u8 xs ++ Lib.strCells y := by
    rw [nums_append]
    congr 1
    simp [nums, bytesOf, Lib.strCells]
  refine event_step hw (v := v1) (w1 := w1) ?_ (h v1 w1 (by rw [hl2, hc]; exact hown) (HB.grown hg hbase (own_base HO)) hg)
  unfold execOp
  simp only [ho, resolve, invoke, builtin, Sem.run_bind, Sem.run_pure, Result.andThen_ok, List.map_toArray, List.map_cons, List.map_nil, hs, hx, hr]
end
end Go.Proofs.YtjnmcgeahomkeaaDoorM
end

section
namespace Go.Proofs
open Go.Shelf
def Tryd.lays119_ren : Go.Shelf.Ren := ⟨fun | 119 => 89 | n => n, fun | 21 => 21 | 4 => 4 | n => n, fun | n => n⟩
theorem Tryd.lays119 : Go.Proofs.Lays.n119 Tryd.prog Tryd.lays119_ren := {
  mixed := by kernel_rfl
  f119 := Tryd.func89.trans (congrArg some (by kernel_rfl))
  t4 := Tryd.underlying4
  a4 := Tryd.isAgg4
  z4 := Tryd.sizeOf4
  v4 := Tryd.zeroValue4
  t21 := Tryd.underlying21
  a21 := Tryd.isAgg21
  z21 := Tryd.sizeOf21
  v21 := Tryd.zeroValue21 }
theorem Tryd.utf8_ValidRune (r : Int) (w : World) :
    Calls Tryd.prog 89 #[.int .i32 r] w fun e w' => e = .returned (.bool (Lib.validRune r)) ∧ w' = w := Any.utf8_ValidRune Tryd.lays119 r w
def Tryd.lays137_ren : Go.Shelf.Ren := ⟨fun | 137 => 88 | 217 => 93 | 266 => 95 | n => n, fun | 9 => 9 | 5 => 5 | 3 => 3 | n => n, fun | n => n⟩
theorem Tryd.lays137 : Go.Proofs.Lays.n137 Tryd.prog Tryd.lays137_ren := {
  mixed := by kernel_rfl
  f137 := Tryd.func88.trans (congrArg some (by kernel_rfl))
  f217 := Tryd.func93.trans (congrArg some (by kernel_rfl))
  f266 := Tryd.func95.trans (congrArg some (by kernel_rfl))
  t3 := Tryd.underlying3
  a3 := Tryd.isAgg3
  z3 := Tryd.sizeOf3
  v3 := Tryd.zeroValue3
  t5 := Tryd.underlying5
  a5 := Tryd.isAgg5
  z5 := Tryd.sizeOf5
  v5 := Tryd.zeroValue5
  t9 := Tryd.underlying9
  a9 := Tryd.isAgg9
  z9 := Tryd.sizeOf9
  v9 := Tryd.zeroValue9 }
open Go.RowKit in
/-- strings.IndexByte: "IndexByte returns the index of the first instance of c in s, or -1 if c is not present in s.": IT RETURNS 'Lib.indexByte s c'; the world is as it was. (LAID: no walk: one application.) -/
theorem Tryd.strings_IndexByte (s : ByteArray) (c : Int) (w : World) :
    Calls Tryd.prog 88 #[.string s, .int .u8 c] w fun e w' => e = .returned (.int .i64 (Lib.indexByte s.data.toList c.toNat.toUInt8)) ∧ w' = w := Any.strings_IndexByte Tryd.lays137 s c w
def Tryd.lays149_ren : Go.Shelf.Ren := ⟨fun | 149 => 63 | 222 => 73 | n => n, fun | 9 => 9 | 5 => 5 | 3 => 3 | 4 => 4 | n => n, fun | n => n⟩
theorem Tryd.lays149 : Go.Proofs.Lays.n149 Tryd.prog Tryd.lays149_ren := {
  mixed := by kernel_rfl
  f149 := Tryd.func63.trans (congrArg some (by kernel_rfl))
  f222 := Tryd.func73.trans (congrArg some (by kernel_rfl))
  t3 := Tryd.underlying3
  a3 := Tryd.isAgg3
  z3 := Tryd.sizeOf3
  v3 := Tryd.zeroValue3
  t4 := Tryd.underlying4
  a4 := Tryd.isAgg4
  z4 := Tryd.sizeOf4
  v4 := Tryd.zeroValue4
  t5 := Tryd.underlying5
  a5 := Tryd.isAgg5
  z5 := Tryd.sizeOf5
  v5 := Tryd.zeroValue5
  t9 := Tryd.underlying9
  a9 := Tryd.isAgg9
  z9 := Tryd.sizeOf9
  v9 := Tryd.zeroValue9 }
open Go.RowKit Go.Lib in
/-- strings.LastIndexByte: "LastIndexByte returns the index of the last instance of c in s, or -1 if c is not present in s." (LAID: no walk: one application.) -/
theorem Tryd.strings_LastIndexByte (s : ByteArray) (c : Int) (hs : s.size < 4611686018427387904) (w : World) :
    Calls Tryd.prog 63 #[.string s, .int .u8 c] w fun e w' => e = .returned (.int .i64 (Lib.lastIndexByte s c)) ∧ w' = w := Any.strings_LastIndexByte Tryd.lays149 s c hs w
def Tryd.lays99_ren : Go.Shelf.Ren := ⟨fun | 99 => 19 | 206 => 44 | n => n, fun | 9 => 9 | 4 => 4 | 3 => 3 | n => n, fun | n => n⟩
theorem Tryd.lays99 : Go.Proofs.Lays.n99 Tryd.prog Tryd.lays99_ren := {
  mixed := by kernel_rfl
  f99 := Tryd.func19.trans (congrArg some (by kernel_rfl))
  f206 := Tryd.func44.trans (congrArg some (by kernel_rfl))
  t3 := Tryd.underlying3
  a3 := Tryd.isAgg3
  z3 := Tryd.sizeOf3
  v3 := Tryd.zeroValue3
  t4 := Tryd.underlying4
  a4 := Tryd.isAgg4
  z4 := Tryd.sizeOf4
  v4 := Tryd.zeroValue4
  t9 := Tryd.underlying9
  a9 := Tryd.isAgg9
  z9 := Tryd.sizeOf9
  v9 := Tryd.zeroValue9 }
open Go.RowKit Go.Lib in
/-- strings.HasPrefix: "HasPrefix reports whether the string s begins with prefix.": IT RETURNS 'Lib.hasPrefix s prefix'; the world is as it was. (LAID: no walk: one application.) -/
theorem Tryd.strings_HasPrefix (s p : ByteArray) (w : World) :
    Calls Tryd.prog 19 #[.string s, .string p] w fun e w' => e = .returned (.bool (Lib.hasPrefix s.data.toList p.data.toList)) ∧ w' = w := Any.strings_HasPrefix Tryd.lays99 s p w
def Tryd.lays146_ren : Go.Shelf.Ren := ⟨fun | 146 => 61 | 221 => 69 | 268 => 78 | 138 => 79 | 143 => 80 | 195 => 84 | 197 => 85 | 218 => 86 | 219 => 87 | 260 => 92 | 217 => 93 | 225 => 91 | 224 => 90 | 267 => 94 | 266 => 95 | 314 => 96 | n => n, fun | 9 => 9 | 31 => 76 | 3 => 3 | 4 => 4 | 0 => 0 | 105 => 95 | 21 => 21 | 5 => 5 | 46 => 45 | 119 => 99 | 139 => 102 | 138 => 101 | 146 => 104 | 51 => 103 | n => n, fun | 1 => 0 | 3 => 1 | 4 => 2 | n => n⟩
theorem Tryd.lays146 : Go.Proofs.Lays.n146 Tryd.prog Tryd.lays146_ren := {
  mixed := by kernel_rfl
  f138 := Tryd.func79.trans (congrArg some (by kernel_rfl))
  f143 := Tryd.func80.trans (congrArg some (by kernel_rfl))
  f146 := Tryd.func61.trans (congrArg some (by kernel_rfl))
  f195 := Tryd.func84.trans (congrArg some (by kernel_rfl))
  f197 := Tryd.func85.trans (congrArg some (by kernel_rfl))
  f217 := Tryd.func93.trans (congrArg some (by kernel_rfl))
  f218 := Tryd.func86.trans (congrArg some (by kernel_rfl))
  f219 := Tryd.func87.trans (congrArg some (by kernel_rfl))
  f221 := Tryd.func69.trans (congrArg some (by kernel_rfl))
  f224 := Tryd.func90.trans (congrArg some (by kernel_rfl))
  f225 := Tryd.func91.trans (congrArg some (by kernel_rfl))
  f260 := Tryd.func92.trans (congrArg some (by kernel_rfl))
  f266 := Tryd.func95.trans (congrArg some (by kernel_rfl))
  f267 := Tryd.func94.trans (congrArg some (by kernel_rfl))
  f268 := Tryd.func78.trans (congrArg some (by kernel_rfl))
  f314 := Tryd.func96.trans (congrArg some (by kernel_rfl))
  t0 := Tryd.underlying0
  a0 := Tryd.isAgg0
  z0 := Tryd.sizeOf0
  v0 := Tryd.zeroValue0
  t3 := Tryd.underlying3
  a3 := Tryd.isAgg3
  z3 := Tryd.sizeOf3
  v3 := Tryd.zeroValue3
  t4 := Tryd.underlying4
  a4 := Tryd.isAgg4
  z4 := Tryd.sizeOf4
  v4 := Tryd.zeroValue4
  t5 := Tryd.underlying5
  a5 := Tryd.isAgg5
  z5 := Tryd.sizeOf5
  v5 := Tryd.zeroValue5
  t9 := Tryd.underlying9
  a9 := Tryd.isAgg9
  z9 := Tryd.sizeOf9
  v9 := Tryd.zeroValue9
  t21 := Tryd.underlying21
  a21 := Tryd.isAgg21
  z21 := Tryd.sizeOf21
  v21 := Tryd.zeroValue21
  t31 := Tryd.underlying76
  a31 := Tryd.isAgg76
  z31 := Tryd.sizeOf76
  v31 := Tryd.zeroValue76
  t46 := Tryd.underlying45
  a46 := Tryd.isAgg45
  z46 := Tryd.sizeOf45
  v46 := Tryd.zeroValue45
  t51 := Tryd.underlying103
  a51 := Tryd.isAgg103
  z51 := Tryd.sizeOf103
  v51 := Tryd.zeroValue103
  t105 := Tryd.underlying95
  a105 := Tryd.isAgg95
  z105 := Tryd.sizeOf95
  v105 := Tryd.zeroValue95
  t119 := Tryd.underlying99
  a119 := Tryd.isAgg99
  z119 := Tryd.sizeOf99
  t138 := Tryd.underlying101
  a138 := Tryd.isAgg101
  z138 := Tryd.sizeOf101
  v138 := Tryd.zeroValue101
  t139 := Tryd.underlying102
  a139 := Tryd.isAgg102
  z139 := Tryd.sizeOf102
  v139 := Tryd.zeroValue102
  t146 := Tryd.underlying104
  a146 := Tryd.isAgg104
  z146 := Tryd.sizeOf104
  v146 := Tryd.zeroValue104
  g1 := by kernel_rfl
  g3 := by kernel_rfl
  g4 := by kernel_rfl }
open Go.RowKit Go.Lib in
/-- strings.Split. (LAID: no walk: one application.) -/
theorem Tryd.strings_Split (s sep : ByteArray) (m : Int) (w : World) (hs : s.size < 4294967281) (hm : w.cell? ⟨0, 0, none⟩ = some (.int .i64 m)) (h1 : 1 ≤ sep.size) :
    Calls Tryd.prog 61 #[.string s, .string sep] w fun e w' =>
      e = .returned (.slice (some ⟨w.heap.size, 0, none⟩) (Lib.countB s sep + 1) (Lib.countB s sep + 1)) ∧ w' = w.alloc (.cells ((Lib.splitB sep 0 (Lib.countB s sep) s).map Value.string).toArray 9) := Any.strings_Split Tryd.lays146 (by kernel_rfl) s sep m w hs hm h1
def Tryd.lays151_ren : Go.Shelf.Ren := ⟨fun | 151 => 72 | 152 => 81 | 137 => 88 | 119 => 89 | 224 => 90 | 225 => 91 | 217 => 93 | 266 => 95 | n => n, fun | 9 => 9 | 21 => 21 | 4 => 4 | 3 => 3 | 5 => 5 | 0 => 0 | 46 => 45 | n => n, fun | n => n⟩
theorem Tryd.lays151 : Go.Proofs.Lays.n151 Tryd.prog Tryd.lays151_ren := {
  mixed := by kernel_rfl
  f119 := Tryd.func89.trans (congrArg some (by kernel_rfl))
  f137 := Tryd.func88.trans (congrArg some (by kernel_rfl))
  f151 := Tryd.func72.trans (congrArg some (by kernel_rfl))
  f152 := Tryd.func81.trans (congrArg some (by kernel_rfl))
  f217 := Tryd.func93.trans (congrArg some (by kernel_rfl))
  f224 := Tryd.func90.trans (congrArg some (by kernel_rfl))
  f225 := Tryd.func91.trans (congrArg some (by kernel_rfl))
  f266 := Tryd.func95.trans (congrArg some (by kernel_rfl))
  t0 := Tryd.underlying0
  a0 := Tryd.isAgg0
  z0 := Tryd.sizeOf0
  v0 := Tryd.zeroValue0
  t3 := Tryd.underlying3
  a3 := Tryd.isAgg3
  z3 := Tryd.sizeOf3
  v3 := Tryd.zeroValue3
  t4 := Tryd.underlying4
  a4 := Tryd.isAgg4
  z4 := Tryd.sizeOf4
  v4 := Tryd.zeroValue4
  t5 := Tryd.underlying5
  a5 := Tryd.isAgg5
  z5 := Tryd.sizeOf5
  v5 := Tryd.zeroValue5
  t9 := Tryd.underlying9
  a9 := Tryd.isAgg9
  z9 := Tryd.sizeOf9
  v9 := Tryd.zeroValue9
  t21 := Tryd.underlying21
  a21 := Tryd.isAgg21
  z21 := Tryd.sizeOf21
  v21 := Tryd.zeroValue21
  t46 := Tryd.underlying45
  a46 := Tryd.isAgg45
  z46 := Tryd.sizeOf45
  v46 := Tryd.zeroValue45 }
open Go.RowKit Go.Lib in
theorem Tryd.strings_ContainsRune_ascii (s : ByteArray) (r : Int) (w : World) (h0 : 0 ≤ r) (h1 : r < 128) :
    Calls Tryd.prog 72 #[.string s, .int .i32 r] w fun e w' => e = .returned (.bool (decide (0 ≤ Lib.indexByte s.data.toList r.toNat.toUInt8))) ∧ w' = w := Any.strings_ContainsRune_ascii Tryd.lays151 s r w h0 h1
end Go.Proofs
end

section
set_option linter.unusedVariables false
set_option linter.unusedSimpArgs false
namespace Go.Proofs.YtjnmcgeahomkeaaDoorM
open Go.RowKit Go.Proofs.YtjnmcgeahomkeaaDoorW.PrintWords
structure EnvW (w : World) : Prop where mk :: (out : ∃ m, w.cell? ⟨0, 0, none⟩ = some (.int .i64 m))
theorem EnvW.below {w W : World} (h : EnvW w) (hb : Below w.heap.size w W) : EnvW W := ⟨h.out.elim fun m hm => ⟨m, pw_cell_below hb hm⟩⟩
theorem EnvW.drewN {w : World} (h : EnvW w) (n : Nat) : EnvW (w.drewN n) := ⟨h.out⟩
theorem EnvW.drew {w : World} (h : EnvW w) : EnvW w.drew := ⟨h.out⟩
theorem splitB_length (sep : ByteArray) (h1 : 1 ≤ sep.size) : ∀ (k : Nat) (s : ByteArray), Lib.countB s sep = k → (Lib.splitB sep 0 k s).length = k + 1 := by
  intro k
  induction k with
  | zero => exact fun s _ => rfl
  | succ k ih =>
    intro s h
    by_cases hi : Lib.indexB s sep = -1
    · rw [Lib.countB_miss s sep hi] at h
      cases h
    · obtain ⟨i, hi', _⟩ := (Lib.indexB_cases s sep).resolve_left hi
      rw [Lib.splitB_hit sep 0 k s i hi']
      rw [Lib.countB_hit s sep i h1 hi'] at h
      rw [List.length_cons, ih _ (by omega)]
theorem R_texts (W : World) (e : Nat) (l : List ByteArray) (n : Nat) (hn : l.length = n) (hm : n ≤ 9223372036854775807) :
    Kd.R Kd.string e (W.alloc (.cells (l.map Value.string).toArray e)) W.heap.size (fun _ => True) (.slice (some ⟨W.heap.size, 0, none⟩) n n) l := by
  subst hn
  have h := World.ownsRow_lit (base := W.heap.size) (e := e) (size := 1) W (l.map Value.string).toArray l.length (Nat.le_refl _) (by simpa [maxLen] using hm) (by simp)
  exact Kd.R_of_own (enc := Value.string) (h1 := fun _ => rfl) (by simpa [encs] using h) (fun _ _ => trivial)
theorem splitB_le (sep s : ByteArray) (h1 : 1 ≤ sep.size) (hs : s.size < 4294967281) : Lib.countB s sep + 1 ≤ 9223372036854775807 := by
  have := Lib.count_le s.data.toList sep.data.toList
  have h2 : s.data.toList.length = s.size := by rw [Array.length_toList]; rfl
  unfold Lib.countB
  omega
theorem bytesLess_turn : ∀ x y : List UInt8, (Op.bytesLess x y || x == y) = !(Op.bytesLess y x)
  | [], [] => by simp [Op.bytesLess]
  | _ :: _, [] => by simp [Op.bytesLess]
  | [], _ :: _ => by simp [Op.bytesLess]
  | a :: x, b :: y => by
    have ih := bytesLess_turn x y
    rw [Op.bytesLess, Op.bytesLess]
    rcases Nat.lt_trichotomy a.toNat b.toNat with h | h | h
    · have h1 : a < b := UInt8.lt_iff_toNat_lt.mpr h
      have h2 : ¬ b < a := fun h' => by have := UInt8.lt_iff_toNat_lt.mp h'; omega
      have h3 : (b == a) = false := by simp; intro h'; subst h'; omega
      simp [h1, h2, h3]
    · have h0 : a = b := UInt8.toNat_inj.mp h
      subst h0
      have h1 : ¬ a < a := fun h' => by have := UInt8.lt_iff_toNat_lt.mp h'; omega
      simp only [h1, decide_false, Bool.false_or, BEq.rfl, Bool.true_and, List.cons_beq_cons]
      exact ih
    · have h1 : b < a := UInt8.lt_iff_toNat_lt.mpr h
      have h2 : ¬ a < b := fun h' => by have := UInt8.lt_iff_toNat_lt.mp h'; omega
      have h3 : (a == b) = false := by simp; intro h'; subst h'; omega
      simp [h1, h2, h3]
theorem str_leq (t : TypeId) (a b : ByteArray) : binOp .leq t (.string a) (.string b) = pure (.bool !(Op.bytesLess b.toList a.toList)) := by
  rw [← bytesLess_turn]; simp [binOp, Op.stringOp]
theorem str_gtr (t : TypeId) (a b : ByteArray) : binOp .gtr t (.string a) (.string b) = pure (.bool (Op.bytesLess b.toList a.toList)) := by
  rw [show Op.bytesLess b.toList a.toList = !(!(Op.bytesLess b.toList a.toList)) by simp, ← bytesLess_turn]; simp [binOp, Op.stringOp]
theorem str_geq (t : TypeId) (a b : ByteArray) : binOp .geq t (.string a) (.string b) = pure (.bool !(Op.bytesLess a.toList b.toList)) := by simp [binOp, Op.stringOp]
attribute [go_sem high] str_leq str_gtr str_geq
theorem wrap64_mod256 (x : Int) : wrap64 (x % 256) = x % 256 := by
  have h0 := Int.emod_nonneg x (show (256 : Int) ≠ 0 by decide)
  have h1 := Int.emod_lt_of_pos x (show (0 : Int) < 256 by decide)
  unfold wrap64
  omega
attribute [go_sem high] wrap64_mod256
end Go.Proofs.YtjnmcgeahomkeaaDoorM
end

section
set_option linter.unusedVariables false
set_option linter.unusedSimpArgs false
namespace Go.Proofs.YtjnmcgeahomkeaaDoorM
open Go.RowKit Go.Proofs.YtjnmcgeahomkeaaDoorW.PrintWords
def Kd.Z (d : Kd Int) (e : Nat) (W : World) (base : Nat) (ok : Nat → Prop) (v : Value) (xs : List Int) : Prop :=
  d.R e W base ok v xs ∨ ∃ g, v = .slice (some ⟨g, 0, none⟩) xs.length xs.length ∧ base ≤ g ∧ g < W.heap.size ∧ ok g ∧ ReadsInt W .u8 (some ⟨g, 0, none⟩) xs.length xs
section
variable {d : Kd Int} {e base : Nat} {W : World} {ok ok' : Nat → Prop} {v : Value} {xs : List Int}
theorem Kd.Z_of (h : d.R e W base ok v xs) : Kd.Z d e W base ok v xs := .inl h
theorem Kd.Z_mono (h : Kd.Z d e W base ok v xs) (hok : ∀ k, ok k → ok' k) : Kd.Z d e W base ok' v xs :=
  h.imp (fun h => Kd.R_mono h hok) (fun ⟨g, h1, h2, h3, h4, h5⟩ => ⟨g, h1, h2, h3, hok g h4, h5⟩)
theorem Kd.Z_ok (h : Kd.Z d e W base ok v xs) : ∀ k, v.ownBlock = some k → ok k := by
  rcases h with h | ⟨g, rfl, _, _, h4, _⟩
  · exact h.1
  · intro k hk
    simp only [Value.ownBlock, Option.some.injEq] at hk
    exact hk ▸ h4
theorem Kd.Z_lower {base' : Nat} (h : Kd.Z d e W base ok v xs) (hb : base' ≤ base) : Kd.Z d e W base' ok v xs :=
  h.imp (fun h => Kd.R_lower h hb) (fun ⟨g, h1, h2, h3, h4, h5⟩ => ⟨g, h1, Nat.le_trans hb h2, h3, h4, h5⟩)
theorem Kd.Z_slice (h : Kd.Z d e W base ok v xs) : ∃ A c, v = .slice A xs.length c := by
  rcases h with h | ⟨g, rfl, _⟩
  · exact Kd.R_slice h
  · exact ⟨_, _, rfl⟩
theorem Kd.Z_tight (hE : d.E = []) (h : Kd.Z d e W base ok v xs) : Kd.Z d e W base (fun k => some k = v.ownBlock) v xs := by
  rcases h with h | ⟨g, rfl, h2, h3, h4, h5⟩
  · exact .inl (Kd.R_tight hE h)
  · exact .inr ⟨g, rfl, h2, h3, rfl, h5⟩
end
section
variable {P : Program} {ops : Array Oper} {rest : List Oper} {o o2 : Oper} {a : Act} {Q : Exit → Act → World → Prop}
theorem Kd.Z_append (d : Kd Int) {w0 W : World} (base : Nat) (hgd : o.guard = none) (s x : Operand) (t e : TypeId) (z : Value) (bytes : Nat)
    (ho : o.op = .call { callee := .builtin .append, args := #[s, x], argTypes := #[t, t] })
    (ht : P.underlying t = some (.slice e)) (hinfo : (P.info? e).map (fun i => (i.zero, i.size, i.bytes)) = some (some z, d.sz, bytes)) (hz : z.cells.size = d.sz) (hs0 : 0 < d.sz) (hb0 : 0 < bytes)
    (v : Value) (xs : List Int) (p : Int) (cs : List Value) (ok okp : Nat → Prop) (hs : a.eval s = v) (hx : a.eval x = .slice (some ⟨W.heap.size, 0, none⟩) 1 1) (hp : d.M W base okp p cs) (hokp : ∀ k, okp k → ok k ∧ some k ≠ v.ownBlock) (hfresh : ∀ k, W.heap.size ≤ k → ok k)
    (HO : Kd.Z d e W base ok v xs) (HB : Below base w0 W) (hbase : base ≤ W.heap.size) (hl : (xs.length + 1) * bytes ≤ 140737488355328) (hd : d = Kd.int .u8)
    (h : ∀ v1 w1, d.R e w1 base ok v1 (xs ++ [p]) → Below base w0 w1 → W.grownBy w1 v.ownBlock → (v1.ownBlock = v.ownBlock ∨ ∃ b, v1.ownBlock = some b ∧ W.heap.size ≤ b) → wpList P ops Q rest (a.put o.dst v1) w1) :
    wpList P ops Q (o :: rest) a (W.alloc (.cells cs.toArray e)) := by
  rcases HO with HO | ⟨g, rfl, hbg, hgl, hokg, hr⟩
  · exact Kd.R_append d base hgd s x t e z bytes ho ht hinfo hz hs0 hb0 v xs p cs ok okp hs hx hp hokp hfresh HO HB hbase hl h
  subst hd
  obtain rfl : cs = [.int .u8 p] := hp
  obtain ⟨i0, hi, hzz⟩ := Option.map_eq_some_iff.1 hinfo
  simp only [Prod.mk.injEq] at hzz
  obtain ⟨hz0, hz1, hz2⟩ := hzz
  have hsz : (Kd.int .u8).sz = 1 := rfl
  rw [hsz] at hz1 hz
  have hlen : xs.length + 1 ≤ 140737488355328 := Nat.le_trans (Nat.le_mul_of_pos_right _ hb0) hl
  have hn : (nums .u8 xs).length = xs.length := by simp [nums]
  have hold : ∀ j u, (nums .u8 xs)[j]? = some u → (W.alloc (.cells #[.int .u8 p] e)).cell? ((⟨g, 0, none⟩ : Addr).add j) = some u := by
    intro j u hu
    obtain ⟨hj, hu2⟩ := List.getElem?_eq_some_iff.1 hu
    have hj' : j < xs.length := by omega
    obtain ⟨ad, e1, hc⟩ := (hr.below (below_alloc (Below.refl _ _) (.cells #[.int .u8 p] e))).2.2 (by omega)
    cases e1
    rw [hc j hj', ← hu2]
    simp [nums, List.getD_eq_getElem?_getD, List.getElem?_eq_getElem hj']
  have hnew : ∀ j u, ([.int .u8 p] : List Value)[j]? = some u → (W.alloc (.cells #[.int .u8 p] e)).cell? ((⟨W.heap.size, 0, none⟩ : Addr).add j) = some u := by
    simpa using World.news_of_block (cs := #[Value.int .u8 p]) (t := e) (fr := (0, 0)) (heap_alloc_new W (.cells #[.int .u8 p] e))
  have hrun := run_append_grow (P := P) (W.alloc (.cells #[.int .u8 p] e)) t o.type e i0 z ht hi hz0 ⟨g, 0, none⟩ xs.length xs.length (nums .u8 xs) (by rw [hn, hz1, Nat.mul_one]) hold ⟨W.heap.size, 0, none⟩ 1 1 [.int .u8 p] (by simp [hz1]) hnew (by omega) (by omega)
    (by rw [hz2]; exact growslice_fits (by omega) hl)
  have hge := grownCap_ge (W.alloc (.cells #[.int .u8 p] e)) (xs.length + 1) xs.length e
  have hcm : grownCap (W.alloc (.cells #[.int .u8 p] e)) (xs.length + 1) xs.length e ≤ maxLen := grownCap_le_maxLen _ _ _ _ (by simp only [maxLen]; omega)
  have hW : (W.alloc (.cells #[.int .u8 p] e)).heap.size = W.heap.size + 1 := by simp
  have hown : ((W.alloc (.cells #[.int .u8 p] e)).drew.alloc (.cells ((nums .u8 xs).toArray ++ [Value.int .u8 p].toArray ++ Builtin.zeroCells z.cells (grownCap (W.alloc (.cells #[.int .u8 p] e)) (xs.length + 1) xs.length e - (xs.length + 1))) e)).ownsRow base e 1
      (.slice (some ⟨(W.alloc (.cells #[.int .u8 p] e)).heap.size, 0, none⟩) (xs.length + 1) (grownCap (W.alloc (.cells #[.int .u8 p] e)) (xs.length + 1) xs.length e)) (xs.length + 1) (nums .u8 (xs ++ [p])) := by
    have e2 : nums .u8 (xs ++ [p]) = nums .u8 xs ++ [.int .u8 p] := by simp [nums]
    refine ⟨by simp [nums], .inr ⟨_, _, _, rfl, by rw [hW]; omega, heap_alloc_new _ _, hge, hcm, ?_, ?_⟩⟩
    · simp only [Array.size_append, List.size_toArray, size_zeroCells, hz, hn, List.length_cons, List.length_nil]
      omega
    · rw [e2]
      simp only [Array.toList_append, Nat.mul_one]
      rw [show xs.length + 1 = (nums .u8 xs ++ [Value.int .u8 p]).length by simp [hn]]
      exact List.take_left
  obtain ⟨v1, hv1⟩ : ∃ v1, v1 = Value.slice (some ⟨(W.alloc (.cells #[.int .u8 p] e)).heap.size, 0, none⟩) (xs.length + 1) (grownCap (W.alloc (.cells #[.int .u8 p] e)) (xs.length + 1) xs.length e) := ⟨_, rfl⟩
  obtain ⟨w1, hw1⟩ : ∃ w1, w1 = (W.alloc (.cells #[.int .u8 p] e)).drew.alloc (.cells ((nums .u8 xs).toArray ++ [Value.int .u8 p].toArray ++ Builtin.zeroCells z.cells (grownCap (W.alloc (.cells #[.int .u8 p] e)) (xs.length + 1) xs.length e - (xs.length + 1))) e) := ⟨_, rfl⟩
  have hrun' : (Builtin.append_ #[t, t] o.type #[.slice (some ⟨g, 0, none⟩) xs.length xs.length, .slice (some ⟨W.heap.size, 0, none⟩) 1 1]).run P (W.alloc (.cells #[.int .u8 p] e)) = .ok v1 w1 := by rw [hv1, hw1]; exact hrun
  have hown' : w1.ownsRow base e 1 v1 (xs.length + 1) (nums .u8 (xs ++ [p])) := by rw [hv1, hw1]; exact hown
  have hob : v1.ownBlock = some (W.heap.size + 1) := by rw [hv1]; simp [Value.ownBlock]
  have hsz1 : w1.heap.size = W.heap.size + 2 := by rw [hw1]; simp
  have hw1o : ∀ k, k < W.heap.size + 1 → w1.heap[k]? = (W.alloc (.cells #[.int .u8 p] e)).heap[k]? := fun k hk => by
    rw [hw1]
    exact heap_alloc_old (W.alloc (.cells #[.int .u8 p] e)).drew _ (by show k < (W.alloc (.cells #[.int .u8 p] e)).heap.size; omega)
  have hgr : (W.alloc (.cells #[.int .u8 p] e)).grownBy w1 (Value.ownBlock (.slice (some ⟨g, 0, none⟩) xs.length xs.length)) := by
    refine ⟨by rw [hw1]; rfl, by rw [hw1]; rfl, by rw [hw1]; rfl, by omega, fun k hk _ => hw1o k (by omega)⟩
  refine Kd.event_run hgd (v := v1) (w1 := w1) ?_ (h v1 w1 ?_ ?_ ?_ ?_)
  · unfold execOp
    simp only [ho, resolve, invoke, builtin, Sem.run_bind, Sem.run_pure, Result.andThen_ok, List.map_toArray, List.map_cons, List.map_nil, hs, hx]
    show ((Builtin.append_ #[t, t] o.type #[.slice (some ⟨g, 0, none⟩) xs.length xs.length, .slice (some ⟨W.heap.size, 0, none⟩) 1 1]).run P (W.alloc (.cells #[.int .u8 p] e))).andThen _ = _
    rw [hrun']
    rfl
  · have hl3 : (xs ++ [p]).length = xs.length + 1 := by simp
    refine Kd.R_of_own (enc := Value.int .u8) (h1 := fun _ => rfl) ?_ (fun k hk => hfresh k ?_)
    · rw [hl3]
      exact hown'
    · rw [hob] at hk
      injection hk with hk
      omega
  · exact (HB.alloc hbase _).grown hgr (by omega) (fun q hq => by simp only [Value.ownBlock, Option.some.injEq] at hq; omega)
  · exact World.grownBy.trans (World.grownBy_alloc W _ _) hgr
  · exact .inr ⟨_, hob, by omega⟩
theorem Kd.Z_litc (d : Kd Int) {w0 W : World} (base e : Nat) (hgd : o.guard = none) {N : Tmp} (hdN : o.dst = some N) {xs : List Int} {inner : List Value} {ok okp : Nat → Prop}
    (hrun : (execOp a.eval o).run P W = .ok (.value (.slice (some ⟨W.heap.size, 0, none⟩) xs.length xs.length)) (W.alloc (.cells inner.toArray e)))
    (hrep : Reps (d.M W base okp) d.sz xs inner) (hok : ∀ k, okp k → ok k) (hfresh : ok W.heap.size) (HB : Below base w0 W) (hbase : base ≤ W.heap.size) (hm : xs.length ≤ 9223372036854775807)
    (hd : d = Kd.int .u8) (hg2 : o2.guard = none) (t : TypeId) (ho2 : o2.op = .convert t t (.tmp N)) (ht : P.underlying t = some (.slice e)) (he : P.underlying e = some (.int .u8)) (hev : ∀ u, (a.put o.dst u).eval (.tmp N) = u)
    (h : ∀ v1 w1, Kd.Z d e w1 base ok v1 xs → Below base w0 w1 → W.grownBy w1 none → (∃ b, v1.ownBlock = some b ∧ W.heap.size ≤ b) → wpList P ops Q rest ((a.put o.dst v1).put o2.dst v1) w1) : wpList P ops Q (o :: o2 :: rest) a W := by
  subst hd
  refine Kd.event_run hgd hrun ?_
  have hsh : (W.alloc (.cells inner.toArray e)).shape? W.heap.size = some (e, inner.toArray.size) := by
    have : (W.alloc (.cells inner.toArray e)).heap[W.heap.size]? = some (.cells inner.toArray e) := by
      show (W.heap.push (.cells inner.toArray e))[W.heap.size]? = _
      simp
    unfold World.shape?
    rw [this]
  have hfr : ∀ n, (W.alloc (.cells inner.toArray e)).freeze ⟨W.heap.size, n, none⟩ 1 = W.alloc (.cells inner.toArray e (n, n + 1)) := fun n => by
    have hm : ∀ (a : Array Obj) (x : Obj) (f : Obj → Obj), (a.push x).modify a.size f = a.push (f x) := by
      intro a x f
      apply Array.ext
      · simp
      · intro i h1 h2
        simp only [Array.getElem_modify, Array.getElem_push]
        by_cases h : a.size = i
        · subst h
          simp
        · have hi : i < a.size := by simp at h1; omega
          simp [h, hi]
    unfold World.freeze
    rw [if_neg (by decide)]
    show ({ W.alloc (.cells inner.toArray e) with heap := (W.heap.push (.cells inner.toArray e)).modify W.heap.size _ } : World) = _
    rw [hm]
    rfl
  refine Kd.event_run (v := .slice (some ⟨W.heap.size, 0, none⟩) xs.length xs.length) (w1 := W.alloc (.cells inner.toArray e (inner.toArray.size, inner.toArray.size + 1))) hg2 ?_ (h _ _ (.inr ⟨_, rfl, hbase, by simp, hfresh, ?_⟩) (HB.alloc hbase _) (World.grownBy_alloc W _ none) ⟨W.heap.size, by simp [Value.ownBlock], Nat.le_refl _⟩)
  · simp [execOp, ho2, hev, convert, run_underlying ht, run_underlying he, markStringish, hsh, Result.andThen]
    exact (hfr _)
  · have hi : inner = nums .u8 xs := by
      apply List.ext_getElem?
      intro j
      rcases Nat.lt_or_ge j xs.length with hj | hj
      · have h2 := hrep.2 j _ (List.getElem?_eq_getElem hj)
        have h3 : (inner.drop (j * 1)).take 1 = [.int .u8 xs[j]] := h2
        have hl : j < inner.length := by have := hrep.1; simp [show (Kd.int .u8).sz = 1 from rfl] at this; omega
        rw [Nat.mul_one, List.drop_eq_getElem_cons hl, List.take_succ_cons] at h3
        have h5 := (List.cons.inj h3).1
        simp [nums, List.getElem?_eq_getElem hl, List.getElem?_eq_getElem hj, h5]
      · have h3 : inner.length = xs.length := by have := hrep.1; simp [show (Kd.int .u8).sz = 1 from rfl] at this; omega
        rw [List.getElem?_eq_none (by omega), List.getElem?_eq_none (by simp [nums]; omega)]
    refine ⟨rfl, hm, fun hn => ⟨_, rfl, fun j hj => ?_⟩⟩
    rw [add_plain, cell_of_row _ W.heap.size j inner.toArray e _ (heap_alloc_new W _)]
    rw [hi]
    simp [nums, List.getD_eq_getElem?_getD, List.getElem?_eq_getElem hj, hj]
end
end Go.Proofs.YtjnmcgeahomkeaaDoorM
end

section
set_option linter.unusedVariables false
set_option linter.unusedSimpArgs false
namespace Go.Proofs.YtjnmcgeahomkeaaDoorM
open Go.RowKit Go.Proofs.YtjnmcgeahomkeaaDoorW.PrintWords
structure CamB (W : World) (base g c : Nat) (xs : List Int) : Prop where
  new : base ≤ g
  lt : g < W.heap.size
  le : xs.length ≤ c
  cells : ∀ (j : Nat) (h : j < xs.length), W.cell? ⟨g, j, none⟩ = some (.int .u8 xs[j])
  room : ∀ j, j < c → (W.cell? ⟨g, j, none⟩).isSome = true ∧ W.frozen? ⟨g, j, none⟩ = false
theorem CamB.below {W W1 : World} {base g c : Nat} {xs : List Int} (h : CamB W base g c xs) (hb : Below W.heap.size W W1) : CamB W1 base g c xs :=
  ⟨h.new, Nat.lt_of_lt_of_le h.lt hb.size, h.le, fun j hj => (World.cell?_of_block (a := ⟨g, j, none⟩) (hb.block g h.lt)).trans (h.cells j hj), fun j hj => ⟨by rw [World.cell?_of_block (a := ⟨g, j, none⟩) (hb.block g h.lt)]; exact (h.room j hj).1, (World.frozen?_of_block (a := ⟨g, j, none⟩) (hb.block g h.lt)).trans (h.room j hj).2⟩⟩
theorem conv_cam (W : World) (e : TypeId) (s : ByteArray) : CamB (Lib.bytesWorld W e s) W.heap.size W.heap.size (grownCap W s.size 0 e) (bytesOf s) := by
  have hl := bytesOf_length s
  have hge := grownCap_ge W s.size 0 e
  have hsz : (Lib.bytesCells W e s).size = grownCap W s.size 0 e := by
    unfold Lib.bytesCells
    rw [Array.size_append, Array.size_map, Array.size_replicate]
    show s.size + _ = _
    omega
  refine ⟨Nat.le_refl _, by rw [Lib.bytesWorld_size]; omega, by omega, fun j hj => ?_, fun j hj => ⟨?_, ?_⟩⟩
  · rw [Lib.bytesWorld_cell W e s j (by omega)]
    have h' : j < s.data.toList.length := by rw [data_length]; omega
    simp [bytesOf, List.getD_eq_getElem?_getD, List.getElem?_eq_getElem h']
  · unfold World.cell?
    simp only [Lib.bytesWorld_at_new]
    rw [Array.getElem?_eq_getElem (by rw [hsz]; exact hj)]
    rfl
  · unfold World.frozen?
    simp only [Lib.bytesWorld_at_new]
    rw [hsz]
    simp
    omega
section
variable {P : Program} {ops : Array Oper} {rest : List Oper} {o : Oper} {a : Act} {Q : Exit → Act → World → Prop} {W : World}
theorem conv_room (hgd : o.guard = none) {N : Tmp} (_hd : o.dst = some N) (src dst e : TypeId) (x : Operand) (ho : o.op = .convert src dst x) {u : TypeDesc} (hs : P.underlying src = some u) (hdt : P.underlying dst = some (.slice e)) (he : P.underlying e = some (.int .u8))
    (s : ByteArray) (hx : a.eval x = .string s) (y : List Int) (hy : y = bytesOf s)
    (h : ∀ g c w1, CamB w1 W.heap.size g c y → Below W.heap.size W w1 → wpList P ops Q rest (a.put o.dst (.slice (some ⟨g, 0, none⟩) y.length c)) w1) : wpList P ops Q (o :: rest) a W := by
  subst hy
  refine wpList_plain hgd fun K hK => ?_
  have hr : (execOp a.eval o).run P W = .ok (.value (.slice (some ⟨W.heap.size, 0, none⟩) s.size (grownCap W s.size 0 e))) (Lib.bytesWorld W e s) := by
    simp [execOp, ho, hx, print_bytes (P := P) src dst e hs hdt he s W, Result.andThen]
  unfold Oper.wp
  rw [hr]
  refine hK _ _ ?_
  have h1 := h W.heap.size (grownCap W s.size 0 e) _ (conv_cam W e s) (bytes_below (Below.refl _ _) (Nat.le_refl _) e s)
  rw [bytesOf_length] at h1
  exact h1
theorem below_setCells {B : Nat} {w W : World} (h : Below B w W) (g off : Nat) (vs : List Value) (hg : B ≤ g) : Below B w (W.setCells g off vs) := by
  obtain ⟨h1, h2, h3, h4⟩ := setCells_same g vs off W
  exact h.trans ⟨h1, h2, h3, by rw [h4]; exact Nat.le_refl _, fun i hi => setCells_far vs off i (by omega)⟩
theorem room_append {w0 : World} (base : Nat) (hgd : o.guard = none) (s x : Operand) (t e : TypeId)
    (ho : o.op = .call { callee := .builtin .append, args := #[s, x], argTypes := #[t, t] })
    (ht : P.underlying t = some (.slice e)) (hinfo : (P.info? e).map (fun i => (i.zero, i.size, i.bytes)) = some (some (.int .u8 0), 1, 1))
    (g c : Nat) (xs ys : List Int) (A : Option Addr) (c2 : Nat) (hs : a.eval s = .slice (some ⟨g, 0, none⟩) xs.length c) (hx : a.eval x = .slice A ys.length c2)
    (HA : CamB W base g c xs) (HR : (Kd.int .u8).C W A ys.length ys) (HB : Below base w0 W) (hbase : base ≤ W.heap.size) (hl : xs.length + ys.length ≤ 140737488355328)
    (h : ∀ A1 c1 w1, (Kd.int .u8).C w1 A1 (xs ++ ys).length (xs ++ ys) → (xs ++ ys).length ≤ c1 → Below base w0 w1 → wpList P ops Q rest (a.put o.dst (.slice A1 (xs ++ ys).length c1)) w1) : wpList P ops Q (o :: rest) a W := by
  obtain ⟨i0, hi, hzz⟩ := Option.map_eq_some_iff.1 hinfo
  simp only [Prod.mk.injEq] at hzz
  obtain ⟨hz0, hz1, hz2⟩ := hzz
  have hny : (nums .u8 ys).length = ys.length := by simp [nums]
  have hnx : (nums .u8 xs).length = xs.length := by simp [nums]
  have hr : ReadsInt W .u8 A ys.length ys := readsInt_of.2 (Kd.reads_of_C (h1 := fun _ => rfl) HR)
  have hsrc : Src P i0.size t (.slice A ys.length c2) ys.length (nums .u8 ys) W := by
    rw [hz1]
    cases A with
    | none =>
      have h0 : ys.length = 0 := by
        rcases Nat.eq_zero_or_pos ys.length with h0 | h0
        · exact h0
        · obtain ⟨ad, e1, _⟩ := hr.2.2 h0
          cases e1
      have h1 : ys = [] := List.eq_nil_of_length_eq_zero h0
      subst h1
      exact Src.ofNil W ht c2
    | some ad =>
      refine Src.ofSlice W ht ad ys.length c2 _ (by rw [hny, Nat.mul_one]) (fun j u hu => ?_) (fun u hu => ?_)
      · obtain ⟨hj, hu2⟩ := List.getElem?_eq_some_iff.1 hu
        have hj' : j < ys.length := by omega
        obtain ⟨ad2, e1, hc⟩ := hr.2.2 (by omega)
        cases e1
        rw [hc j hj', ← hu2]
        simp [nums, List.getElem?_eq_getElem hj']
      · obtain ⟨z, _, rfl⟩ := List.mem_map.1 hu
        rfl
  have hxl : (xs ++ ys).length = xs.length + ys.length := List.length_append
  refine wpList_plain hgd fun K hK => ?_
  have fin : ∀ v1 w1, (Builtin.append_ #[t, t] o.type #[.slice (some ⟨g, 0, none⟩) xs.length c, .slice A ys.length c2]).run P W = .ok v1 w1 → wpList P ops Q rest (a.put o.dst v1) w1 → Oper.wp P o a W K Q := by
    intro v1 w1 hrun hw
    have hrr : (execOp a.eval o).run P W = .ok (.value v1) w1 := by
      unfold execOp
      simp only [ho, resolve, invoke, builtin, Sem.run_bind, Sem.run_pure, Result.andThen_ok, List.map_toArray, List.map_cons, List.map_nil, hs, hx, hrun]
    unfold Oper.wp
    rw [hrr]
    exact hK _ _ hw
  by_cases hroom : xs.length + ys.length ≤ c
  · have hrun := run_append_room_src (P := P) W t t o.type e i0 ht hi g 0 xs.length c (.slice A ys.length c2) ys.length (nums .u8 ys) hsrc hroom
      (fun j hj => by rw [hz1, Nat.mul_one, Nat.zero_add]; exact (HA.room (xs.length + j) (by omega)).1) (fun j hj => by rw [hz1, Nat.mul_one, Nat.zero_add]; exact (HA.room (xs.length + j) (by omega)).2)
    rw [hz1, Nat.mul_one, Nat.zero_add] at hrun
    refine fin _ _ hrun ?_
    have hb := below_setCells HB g xs.length (nums .u8 ys) HA.new
    have h1 := h (some ⟨g, 0, none⟩) c (W.setCells g xs.length (nums .u8 ys)) ?_ (by omega) hb
    · rw [hxl] at h1; exact h1
    · refine Kd.C_of_reads (h1 := fun _ => rfl) (readsInt_of.1 ⟨rfl, by rw [hxl]; omega, fun _ => ⟨_, rfl, fun j hj => ?_⟩⟩)
      rw [add_plain]
      rcases Nat.lt_or_ge j xs.length with h1 | h1
      · rw [World.cell?_setCells_out g _ _ _ _ (fun _ _ => .inl h1), HA.cells j h1]
        simp [List.getD_eq_getElem?_getD, List.getElem?_append_left h1, List.getElem?_eq_getElem h1]
      · have h2 : j - xs.length < (nums .u8 ys).length := by omega
        have h3 := World.cell?_setCells_in g (nums .u8 ys) xs.length W (fun i hi2 => (HA.room (xs.length + i) (by omega)).1) (j - xs.length) h2
        rw [show xs.length + (j - xs.length) = j by omega] at h3
        rw [h3]
        have h4 : j - xs.length < ys.length := by omega
        simp [nums, List.getD_eq_getElem?_getD, List.getElem?_append_right h1, List.getElem?_eq_getElem h4]
  · have hrun := run_append_grow_src (P := P) W t t o.type e i0 (.int .u8 0) ht hi hz0 (some ⟨g, 0, none⟩) xs.length c (nums .u8 xs) (by rw [hz1]; exact run_firstCells_some W.drew 1 xs.length ⟨g, 0, none⟩ xs.length c (nums .u8 xs) (by rw [hnx, Nat.mul_one]) (fun j u hu => by
        obtain ⟨hj, hu2⟩ := List.getElem?_eq_some_iff.1 hu
        have hj' : j < xs.length := by omega
        rw [add_plain, ← hu2]
        have h1 := HA.cells j hj'
        have h2 : W.drew.cell? ⟨g, j, none⟩ = W.cell? ⟨g, j, none⟩ := rfl
        rw [h2, h1]
        simp [nums])) (.slice A ys.length c2) ys.length (nums .u8 ys) hsrc (by omega) (by omega) (growslice_fits (by omega) (by rw [hz2, Nat.mul_one]; exact hl))
    refine fin _ _ hrun ?_
    have h1 := h (some ⟨W.heap.size, 0, none⟩) (grownCap W (xs.length + ys.length) c e) (W.drew.alloc (.cells ((nums .u8 xs ++ nums .u8 ys).toArray ++ Builtin.zeroCells (Value.int .u8 0).cells (grownCap W (xs.length + ys.length) c e - (xs.length + ys.length))) e)) ?_ (by rw [hxl]; exact grownCap_ge W _ c e) ?_
    · rw [hxl] at h1; exact h1
    · refine Kd.C_of_reads (h1 := fun _ => rfl) (readsInt_of.1 ⟨rfl, by rw [hxl]; omega, fun _ => ⟨_, rfl, fun j hj => ?_⟩⟩)
      have e1 : (W.drew.alloc (.cells ((nums .u8 xs ++ nums .u8 ys).toArray ++ Builtin.zeroCells (Value.int .u8 0).cells (grownCap W (xs.length + ys.length) c e - (xs.length + ys.length))) e)).cell? ⟨W.heap.size, j, none⟩ = _ := World.cell?_alloc_new W.drew _ _ j
      have h2 : j < (nums .u8 (xs ++ ys)).length := by simp [nums] at hj ⊢; omega
      rw [add_plain, e1, ← nums_append, Array.getElem?_append_left (by simpa using h2), List.getElem?_toArray, List.getElem?_eq_getElem h2]
      simp only [nums, List.getElem_map, List.getD_eq_getElem?_getD, List.getElem?_eq_getElem hj, Option.getD_some]
    · exact (HB.trans ⟨rfl, rfl, rfl, Nat.le_refl _, fun _ _ => rfl⟩ : Below base w0 W.drew).alloc (by exact hbase) _
end
end Go.Proofs.YtjnmcgeahomkeaaDoorM
end

section
namespace Go.Proofs.YtjnmcgeahomkeaaDoorM
open Go.RowKit Go.Proofs.YtjnmcgeahomkeaaDoorW.PrintWords Go.Proofs.YtjnmcgeahomkeaaDoorW.PrintLast Go.Proofs.YtjnmcgeahomkeaaDoorW.PrintMore
set_option linter.unusedVariables false
def bl_ : Nat → Nat → List Bool
  | 0, _ => []
  | n + 1, m => (m % 2).beq 1 :: bl_ n (m / 2)
def bs_ (n m : Nat) : Array Bool := ⟨bl_ n m⟩
section
variable {P : Program} {ops : Array Oper} {Q : Exit → Act → World → Prop} {md : Region.Mode} {S : World → Prop} {ds : List Nat} {T : Bool × List (List Nat × List Nat)} {B : List Nat}
theorem pS_ (i : Nat) {n m N : Nat} {oi : Oper} {v : Value} {fuel : Nat} {a a' : Act} {w : World} (h : wpAnyLast P md ops Q S ds fuel (bs_ n (m + 2 ^ i)) a' w)
    (hT : Aside0 (rtab md ops = T) := by assumption) (hi : ops[i]? = some oi := by exact rfl) (hN : oi.dst = some N := by exact rfl) (hc : anyT T (bs_ n m).toList (bs_ n (m + 2 ^ i)).toList i = true := by kernel_rfl)
    (hQ : ∀ c a w, Q (.panic c) (a.put oi.dst v) w → Q (.panic c) a w := by exact fun _ _ _ h => h)
    (hy : Yields P ops oi v a := by refine Or.inl ⟨by rfl, ?_⟩; intro w'; go_simp; with_reducible rfl)
    (ha : a.put (some N) v = a' := by simp only [Act.put, List.setIfInBounds_toArray, List.set_cons_zero, List.set_cons_succ, i64_w, i32_w]; rfl) : wpAnyLast P md ops Q S ds (fuel + 1) (bs_ n m) a w :=
  pure_ _ hi hN (any_of hT.out hc) hQ hy ha h
theorem pU_ (i : Nat) {n m N : Nat} {oi : Oper} {fuel : Nat} {a a' : Act} {w : World} (h : wpAnyLast P md ops Q S ds fuel (bs_ n (m + 2 ^ i)) a' w)
    (hT : Aside0 (rtab md ops = T) := by assumption) (hi : ops[i]? = some oi := by exact rfl) (hN : oi.dst = some N := by exact rfl) (hc : anyT T (bs_ n m).toList (bs_ n (m + 2 ^ i)).toList i = true := by kernel_rfl)
    (hQ : ∀ c a w, Q (.panic c) (a.put oi.dst undef) w → Q (.panic c) a w := by exact fun _ _ _ h => h)
    (hy : Yields P ops oi undef a := by exact Or.inr ⟨by rfl, rfl⟩)
    (ha : a.put (some N) undef = a' := by simp only [Act.put, List.setIfInBounds_toArray, List.set_cons_zero, List.set_cons_succ, i64_w, i32_w]; rfl) : wpAnyLast P md ops Q S ds (fuel + 1) (bs_ n m) a w :=
  pure_ _ hi hN (any_of hT.out hc) hQ hy ha h
theorem oS_ (i : Nat) {n m N : Nat} {oi : Oper} {fuel : Nat} {a : Act} {w : World}
    (h : ∀ K : Act → World → Prop, Shut (∀ a' w', S w' → (S w' → wpAnyLast P md ops Q S ds fuel (bs_ n (m + 2 ^ i)) a' w') → K a' w') → if Region.wanted oi (yielded ops a.tmps) = true then Oper.wp P oi a w K Q else K (a.put (some N) undef) w)
    (hT : Aside0 (rtab md ops = T) := by assumption) (hi : ops[i]? = some oi := by exact rfl) (hN : oi.dst = some N := by exact rfl) (hc : (readyT T.2 (bs_ n m).toList == [i] && (bs_ n m).toList.set i true == (bs_ n (m + 2 ^ i)).toList) = true := by kernel_rfl) (hd : i ∉ ds := by decide) : wpAnyLast P md ops Q S ds (fuel + 1) (bs_ n m) a w :=
  one_ _ hi hN (one_of hT.out hc) hd h
theorem nS_ (N : Nat) {fuel : Nat} {l : Array Bool} {a a' : Act} {v : Value} {w : World} (h : wpAnyLast P md ops Q S ds fuel l a' w)
    (ha : a.put (some N) v = a' := by show Act.put _ _ _ = _; simp only [Act.put, List.setIfInBounds_toArray, List.set_cons_zero, List.set_cons_succ, i64_w, i32_w]; rfl) : wpAnyLast P md ops Q S ds fuel l (a.put (some N) v) w :=
  norm_ ha h
theorem t1_ (i : Nat) {n m N : Nat}  {w : World} (hS : S w) {oi : Oper} {v : Value} {fuel : Nat} {a a' : Act} (h : wpAnyLast P md ops Q S ds fuel (bs_ n (m + 2 ^ i)) a' w)
    (hT : Aside0 (rtab md ops = T) := by assumption) (hB : Aside0 (waitsOk T.2 B = true) := by assumption) (hi : ops[i]? = some oi := by exact rfl) (hN : oi.dst = some N := by exact rfl) (hc : takeW T B ds (bs_ n m).toList (bs_ n (m + 2 ^ i)).toList i = true := by kernel_rfl)
    (hQ : ∀ c a w, Q (.panic c) (a.put oi.dst v) w → Q (.panic c) a w := by exact fun _ _ _ h => h)
    (hy : YieldsIf P ops S oi v a := by refine Or.inl ⟨by rfl, ?_⟩; rintro w' s0; go_simp; with_reducible rfl)
    (ha : a.put (some N) v = a' := by simp only [Act.put, List.setIfInBounds_toArray, List.set_cons_zero, List.set_cons_succ, i64_w, i32_w]; rfl) : wpAnyLast P md ops Q S ds (fuel + 1) (bs_ n m) a w :=
  take_ _ hi hN (take_ofW hT.out hB.out hc) hQ hy hS ha h
theorem t4_ (i : Nat) {n m N : Nat}  {w : World} (hS : S w) {oi : Oper} {v : Value} {fuel : Nat} {a a' : Act} (h : wpAnyLast P md ops Q S ds fuel (bs_ n (m + 2 ^ i)) a' w)
    (hT : Aside0 (rtab md ops = T) := by assumption) (hB : Aside0 (waitsOk T.2 B = true) := by assumption) (hi : ops[i]? = some oi := by exact rfl) (hN : oi.dst = some N := by exact rfl) (hc : takeW T B ds (bs_ n m).toList (bs_ n (m + 2 ^ i)).toList i = true := by kernel_rfl)
    (hQ : ∀ c a w, Q (.panic c) (a.put oi.dst v) w → Q (.panic c) a w := by exact fun _ _ _ h => h)
    (hy : YieldsIf P ops S oi v a := by refine Or.inl ⟨by rfl, ?_⟩; rintro w' ⟨s0, s1, s2, s3⟩; go_simp; with_reducible rfl)
    (ha : a.put (some N) v = a' := by simp only [Act.put, List.setIfInBounds_toArray, List.set_cons_zero, List.set_cons_succ, i64_w, i32_w]; rfl) : wpAnyLast P md ops Q S ds (fuel + 1) (bs_ n m) a w :=
  take_ _ hi hN (take_ofW hT.out hB.out hc) hQ hy hS ha h
theorem t8_ (i : Nat) {n m N : Nat}  {w : World} (hS : S w) {oi : Oper} {v : Value} {fuel : Nat} {a a' : Act} (h : wpAnyLast P md ops Q S ds fuel (bs_ n (m + 2 ^ i)) a' w)
    (hT : Aside0 (rtab md ops = T) := by assumption) (hB : Aside0 (waitsOk T.2 B = true) := by assumption) (hi : ops[i]? = some oi := by exact rfl) (hN : oi.dst = some N := by exact rfl) (hc : takeW T B ds (bs_ n m).toList (bs_ n (m + 2 ^ i)).toList i = true := by kernel_rfl)
    (hQ : ∀ c a w, Q (.panic c) (a.put oi.dst v) w → Q (.panic c) a w := by exact fun _ _ _ h => h)
    (hy : YieldsIf P ops S oi v a := by refine Or.inl ⟨by rfl, ?_⟩; rintro w' ⟨s0, s1, s2, s3, s4, s5, s6, s7⟩; go_simp; with_reducible rfl)
    (ha : a.put (some N) v = a' := by simp only [Act.put, List.setIfInBounds_toArray, List.set_cons_zero, List.set_cons_succ, i64_w, i32_w]; rfl) : wpAnyLast P md ops Q S ds (fuel + 1) (bs_ n m) a w :=
  take_ _ hi hN (take_ofW hT.out hB.out hc) hQ hy hS ha h
theorem t12_ (i : Nat) {n m N : Nat}  {w : World} (hS : S w) {oi : Oper} {v : Value} {fuel : Nat} {a a' : Act} (h : wpAnyLast P md ops Q S ds fuel (bs_ n (m + 2 ^ i)) a' w)
    (hT : Aside0 (rtab md ops = T) := by assumption) (hB : Aside0 (waitsOk T.2 B = true) := by assumption) (hi : ops[i]? = some oi := by exact rfl) (hN : oi.dst = some N := by exact rfl) (hc : takeW T B ds (bs_ n m).toList (bs_ n (m + 2 ^ i)).toList i = true := by kernel_rfl)
    (hQ : ∀ c a w, Q (.panic c) (a.put oi.dst v) w → Q (.panic c) a w := by exact fun _ _ _ h => h)
    (hy : YieldsIf P ops S oi v a := by refine Or.inl ⟨by rfl, ?_⟩; rintro w' ⟨s0, s1, s2, s3, s4, s5, s6, s7, s8, s9, s10, s11⟩; go_simp; with_reducible rfl)
    (ha : a.put (some N) v = a' := by simp only [Act.put, List.setIfInBounds_toArray, List.set_cons_zero, List.set_cons_succ, i64_w, i32_w]; rfl) : wpAnyLast P md ops Q S ds (fuel + 1) (bs_ n m) a w :=
  take_ _ hi hN (take_ofW hT.out hB.out hc) hQ hy hS ha h
theorem bw_ {n : Nat} {w w1 w2 : World} (HB : Aside0 (Below n w w1)) (h : Below n w w1 → Below n w w2 := by intro hB_; repeat (first | (with_reducible first | exact hB_ | apply below_alloc | apply pw_below_drewN | apply below_drew1) | exact hB_)) : Below n w w2 := h HB.out
theorem bw1_ {n g : Nat} {w w1 w2 : World} (HB : Aside0 (Below n w w1)) (G : Aside0 (n ≤ g)) (h : Below n w w1 → n ≤ g → Below n w w2 := by intro hB_ hG_; repeat (first | (with_reducible first | exact hB_ | apply below_alloc | apply pw_below_drewN | apply below_drew1 | refine below_set ?_ hG_) | exact hB_)) : Below n w w2 := h HB.out G.out
theorem hX_ {w w1 : World} (HB : Aside0 (Below w.heap.size w w1)) {a : Addr} {v : Value} (h : w.cell? a = some v) : w1.cell? a = some v := (HB.out.cell (World.block_lt_of_cell? w _ h)).trans h
theorem dA_ {p : Prop} [Decidable p] (h : decide p = true := by first | (with_reducible assumption) | assumption) : p := of_decide_eq_true h
theorem eR_ {p : Prop} (h : p := by first | rfl | (simp [errW_none, errW_some] <;> rfl) | (simp [*, errW_none, errW_some] <;> rfl)) : p := h
theorem eS_ {p : Prop} (h : p := by first | rfl | (simp; done) | (simp [*]; done)) : p := h
theorem dR_ {p : Prop} (h : p := by repeat (first | exact Drawn0.refl _ | apply Drawn0.step)) : p := h
theorem cS_ {α : Type} {k : Kd α} {w w1 w2 : World} {A : Option Addr} {n : Nat} {l : List α} (H : Aside0 (Kd.C k w A n l)) (HB : Aside0 (Below w.heap.size w w1)) (h : Kd.C k w1 A n l → Kd.C k w2 A n l := by intro hC_; repeat (first | exact hC_ | (with_reducible refine Kd.C_alloc ?_ _) | (with_reducible refine Kd.C_drewN ?_ _) | (with_reducible refine Kd.C_drew ?_))) : Kd.C k w2 A n l := h (Kd.C_below H.out HB.out)
theorem bk_ {W1 W2 : World} {g : Nat} {o : Obj} (H : Aside0 (W1.heap[g]? = some o)) (h : W1.heap[g]? = some o → W2.heap[g]? = some o := by intro hK_; (with_reducible repeat (first | refine blk_drewN ?_ _ | refine blk_drew ?_ | refine blk_alloc ?_ _)); exact hK_) : W2.heap[g]? = some o := h H.out
theorem mp_ {k : TypeId} {κ α : Type} {X : KK P k κ} {Y : EK α} {W1 W2 : World} {g : Nat} {m : List (κ × α)} (H : Aside0 (MapAt X Y W1 g m)) (h : MapAt X Y W1 g m → MapAt X Y W2 g m := by intro hM_; (with_reducible repeat (first | refine MapAt.alloc ?_ _ | refine MapAt.drewN ?_ _ | refine MapAt.drew ?_ | refine MapAt.set_ ?_ _ _)); exact hM_) : MapAt X Y W2 g m := h H.out
theorem kr_ {α : Type} {d : Kd α} {e base : Nat} {ok : Nat → Prop} {v : Value} {l : List α} {W1 W2 : World} (H : Aside0 (Kd.R d e W1 base ok v l)) (h : Kd.R d e W1 base ok v l → Kd.R d e W2 base ok v l := by intro hR_; (with_reducible repeat (first | apply Kd.R_alloc | apply Kd.R_drewN | apply Kd.R_drew)); exact hR_) : Kd.R d e W2 base ok v l := h H.out
theorem bwg_ {n g : Nat} {w w1 w2 : World} (HB : Aside0 (Below n w w1)) (G : n ≤ g) (h : Below n w w1 → n ≤ g → Below n w w2 := by intro hB_ hG_; repeat (first | (with_reducible first | exact hB_ | apply below_alloc | apply pw_below_drewN | apply below_drew1 | refine below_set ?_ hG_) | exact hB_)) : Below n w w2 := h HB.out G
theorem kb_ {w w1 w2 : World} {g : Nat} {row : Option Nat} (H : Aside0 (KeepBut w w1 g row)) (h : KeepBut w w1 g row → KeepBut w w2 g row := by intro hK_; repeat (first | (with_reducible first | exact hK_ | apply KeepBut.set_ | apply keep_drewN | apply keep_drew | apply keep_alloc) | exact hK_)) : KeepBut w w2 g row := h H.out
theorem cR_ {α : Type} {d : Kd α} {e base : Nat} {ok : Nat → Prop} {A : Option Addr} {n c : Nat} {l : List α} {W1 W2 : World} (H : Aside0 (Kd.R d e W1 base ok (.slice A n c) l)) (h : Kd.R d e W1 base ok (.slice A n c) l → Kd.C d W2 A n l := by intro hR_; repeat (first | exact (Kd.R_reads' hR_).2.2 | (with_reducible refine Kd.C_alloc ?_ _) | (with_reducible refine Kd.C_drewN ?_ _) | (with_reducible refine Kd.C_drew ?_))) : Kd.C d W2 A n l := h H.out
theorem cc_ {α : Type} {d : Kd α} {A : Option Addr} {n : Nat} {l : List α} {W1 W2 : World} (H : Aside0 (Kd.C d W1 A n l)) (h : Kd.C d W1 A n l → Kd.C d W2 A n l := by intro hR_; repeat (first | exact hR_ | (with_reducible refine Kd.C_alloc ?_ _) | (with_reducible refine Kd.C_drewN ?_ _) | (with_reducible refine Kd.C_drew ?_))) : Kd.C d W2 A n l := h H.out
theorem dw_ {p : Prop} (h : p := by first | exact ⟨rfl, _, World.drewN_drewN _ _ _⟩ | exact ⟨rfl, _, Eq.trans (World.drewN_drewN _ _ _) (congrArg (World.drewN _) (Nat.add_assoc _ _ _))⟩) : p := h
theorem zc4_ {W : World} {g : Nat} {v0 v1 v2 v3 : Value} {t : TypeId} (H : Aside0 (W.heap[g]? = some (.cells #[v0, v1, v2, v3] t (0, 0)))) : W.cell? ⟨g, 0, none⟩ = some v0 ∧ W.cell? ⟨g, 1, none⟩ = some v1 ∧ W.cell? ⟨g, 2, none⟩ = some v2 ∧ W.cell? ⟨g, 3, none⟩ = some v3 ∧ W.frozen? ⟨g, 0, none⟩ = false ∧ W.frozen? ⟨g, 1, none⟩ = false ∧ W.frozen? ⟨g, 2, none⟩ = false ∧ W.frozen? ⟨g, 3, none⟩ = false := ⟨(blk_cell H.out 0).trans rfl, (blk_cell H.out 1).trans rfl, (blk_cell H.out 2).trans rfl, (blk_cell H.out 3).trans rfl, blk_frozen H.out 0, blk_frozen H.out 1, blk_frozen H.out 2, blk_frozen H.out 3⟩
theorem ge_ {n g : Nat} {w W : World} (hg : g = W.heap.size) (h : Below n w W) (h2 : Below n w W → n ≤ W.heap.size := by exact below_size) : n ≤ g := by rw [hg]; exact h2 h
theorem bE_ {rest : List Oper} {o : Oper} {a : Act} {W : World} (N : Nat) (cs : Array Value) (t : TypeId)
    (h : ∀ g, g = W.heap.size → ∀ w1, w1.heap[g]? = some (.cells cs t (0, 0)) → Below W.heap.size W w1 → wpList P ops Q rest (a.put o.dst (.pointer (some ⟨g, 0, none⟩))) w1)
    (hd : o.dst = some N := by exact rfl) (hg : o.guard = none := by exact rfl)
    (hr : (execOp a.eval o).run P W = .ok (.value (.pointer (some ⟨W.heap.size, 0, none⟩))) (W.alloc (.cells cs t (0, 0))) := by first | (go_simp; done) | (go_simp; rfl)) : wpList P ops Q (o :: rest) a W := box_event hg hd hr h
theorem rH_ {β : Type} {y e : β} (hy : y = e) {p q : Prop} (H : p) (h : y = e → p → q := by intro hy_ H_; first | (rw [hy_]; with_reducible exact H_) | (have H2_ := (Option.bind_some _ _).symm.trans H_; rw [hy_]; with_reducible exact H2_) | (have H2_ := (Option.bind_some _ _).symm.trans H_; with_reducible exact H2_) | with_reducible exact H_ | (rw [hy_]; exact H_) | exact H_) : q := h hy H
theorem gS_ {oi : Oper} {N : Option Tmp} {a : Act} {w : World} {K : Act → World → Prop} {f : FuncId} {fn : Func} {az : Array Operand} {ts : Array TypeId} (hf : P.funcs[f]? = some fn) (args : Array Value)
    (h : Calls P f args w fun e w' => ∃ v, e = .returned v ∧ K (a.put N v) w')
    (hname : (fn.name == "runtime.NumGoroutine") = false := by kernel_rfl) (hb : fn.body.isSome = true := by exact rfl)
    (hw : Region.wanted oi (yielded ops a.tmps) = true := by rfl) (hN : oi.dst = N := by exact rfl) (hop : oi.op = .call { callee := .value (.func f), args := az, argTypes := ts } := by exact rfl)
    (hargs : az.map a.eval = args := by (try simp only [List.map_toArray, List.map_cons, List.map_nil]); first | done | rfl | (simp only [List.length_drop, List.length_take]; rfl)) : if Region.wanted oi (yielded ops a.tmps) = true then Oper.wp P oi a w K Q else K (a.put N undef) w :=
  goes_ hf hname hb args hw hN hop hargs h
theorem gL_ {rest : List Oper} {oi : Oper} {a : Act} {w : World} (N : Option Tmp) {f : FuncId} {fn : Func} {az : Array Operand} {ts : Array TypeId} (hf : P.funcs[f]? = some fn) (args : Array Value)
    (h : Calls P f args w fun e w' => ∃ v, e = .returned v ∧ wpList P ops Q rest (a.put N v) w')
    (hd : oi.dst = N := by exact rfl) (hg : oi.guard = none := by exact rfl) (hname : (fn.name == "runtime.NumGoroutine") = false := by kernel_rfl) (hb : fn.body.isSome = true := by exact rfl)
    (hop : oi.op = .call { callee := .value (.func f), args := az, argTypes := ts } := by exact rfl)
    (hargs : az.map a.eval = args := by (try simp only [List.map_toArray, List.map_cons, List.map_nil]); first | done | rfl | (simp only [List.length_drop, List.length_take]; rfl)) : wpList P ops Q (oi :: rest) a w :=
  goesL_ N hd hg hf hname hb args hop hargs h
end
end Go.Proofs.YtjnmcgeahomkeaaDoorM
end
