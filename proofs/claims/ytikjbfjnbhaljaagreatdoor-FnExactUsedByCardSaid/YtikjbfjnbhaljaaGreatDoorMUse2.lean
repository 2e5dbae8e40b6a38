/- Texts of Use, put together by program. -/
import Derived.ChangeArms
import Derived.DataReads
import Derived.DataElems
import Derived.WideShapes
import Derived.Test.YtikjbfjnbhaljaaGreatDoorMUse1
import Derived.Maps.OwnSet
import Derived.Maps.OwnOps
import Derived.StringKeys
import Derived.Tactics
import Derived.RowKit
import Derived.KernelRfl
import Derived.BigQuiet
import Derived.Shelf.Small.Utf8
import Derived.Shelf.Small.Bits
import Derived.Shelf.Small.Strs
import Derived.Shelf.Utf8.RuneCount
import Derived.Shelf.Strconv.Itoa0
import Derived.Shelf.Strings.Search1
import Derived.Shelf.Strings.Search2
import Derived.Shelf.Strings.Search3
import Derived.Shelf.Strings.Count
import Derived.Shelf.LaysM
import Derived.Shelf.Strings.Shaped
import Derived.Shelf.Sort.Plain
import Derived.Shelf.Strings.LastIndex
import Derived.Shelf.Strings.Split
import Derived.Shelf.Strings.SplitShaped
import Derived.Shelf.Unicode.Decode
import Derived.Shelf.Strings.Runes
import Derived.Shelf.Strings.RuneCount
import Derived.Shelf.Strings.Explode
import Derived.Shelf.Unicode.DecodeSlow
import Derived.Shelf.Unicode.DecodeAny
import Derived.Shelf.Slices.In.SortNone
import Derived.Test.YtikjbfjnbhaljaaGreatDoorProg
import Derived.Lib.Split
import Derived.Laws.ByValue
import Derived.Lib.SliceRun
import Derived.Lib.Replace
import Derived.Lib.LastIndexByte
import Derived.Lib.CutLaws
import Derived.Laws.IdiomStrings
import Derived.Sort.KeysCollected
import Derived.Sort.OwnSorted
import Derived.Maps.RangeWalk
import Derived.DeepKeys5
import Derived.DeepKeys4
import Derived.MapViews
import Derived.ChangeKeys

section
set_option linter.unusedVariables false
set_option linter.unusedSimpArgs false
namespace Go.Proofs.YtikjbfjnbhaljaaGreatDoorM
open Go.RowKit Go.Proofs.YtikjbfjnbhaljaaGreatDoorW.PrintWords
def Opn {α : Type} (P : Program) (w : World) (t : TypeId) (d : Kd α) (g : α → Prop) : Prop :=
  ∀ (H : Type) (enc : TypeId × Value → H) (base : Nat) (spare : Nat → Bool) (held : Bool) (fuel : Nat) (cs : List Value) (x : DataW H × List MemPlace), DataW.trod enc P w base spare held fuel t cs = some x → ∃ a, d.K w a cs ∧ g a
def OpnF {α : Type} (P : Program) (w : World) (fs : Array Field) (size i off : Nat) (d : Kd α) (g : α → Prop) : Prop :=
  ∀ (H : Type) (enc : TypeId × Value → H) (base : Nat) (spare : Nat → Bool) (held : Bool) (n : Nat) (cs : List Value) (xs : List (DataW H × List MemPlace)), cs.length = size → xs.length = fs.size →
    (∀ (i : Nat) (f : Field), fs[i]? = some f → DataW.trod enc P w base spare held n f.type ((cs.drop f.offset).take (P.cellsOf f.type)) = xs[i]?) → ∃ a, d.K w a (cs.drop off) ∧ g a
section
variable {P : Program} {w : World} {t : TypeId}
theorem Opn.bool (ht : P.underlying t = some .bool) : Opn P w t Kd.bool (fun _ => True) := by
  intro H enc base spare held fuel cs x h
  obtain ⟨b, rfl, _⟩ := DataW.trod_bool ht h
  exact ⟨b, rfl, trivial⟩
theorem Opn.int {k : IntKind} (ht : P.underlying t = some (.int k)) : Opn P w t (Kd.int k) (fun n => (Lit.int k n).wf = true) := by
  intro H enc base spare held fuel cs x h
  obtain ⟨n, rfl, _, hw⟩ := DataW.trod_int ht h
  exact ⟨n, rfl, hw⟩
theorem Opn.string (ht : P.underlying t = some .string) : Opn P w t Kd.string (fun s => s.size ≤ maxLen) := by
  intro H enc base spare held fuel cs x h
  obtain ⟨s, rfl, _, hw⟩ := DataW.trod_string ht h
  exact ⟨s, rfl, hw⟩
theorem Opn.iso {α β : Type} {d : Kd α} {g : α → Prop} (f : β → α) (fi : α → β) (hf : ∀ a, f (fi a) = a) (h : Opn P w t d g) : Opn P w t (Kd.iso d f) (fun b => g (f b)) := by
  intro H enc base spare held fuel cs x hx
  obtain ⟨a, ha, hg⟩ := h H enc base spare held fuel cs x hx
  refine ⟨fi a, ?_, ?_⟩
  · show d.K w (f (fi a)) cs
    rw [hf]; exact ha
  · show g (f (fi a))
    rw [hf]; exact hg
theorem OpnF.last {α : Type} {d : Kd α} {g : α → Prop} {fs : Array Field} {size i off : Nat} (f : Field) (hf : fs[i]? = some f) (ho : f.offset = off) (hs : off + P.cellsOf f.type = size) (h : Opn P w f.type d g) : OpnF P w fs size i off d g := by
  intro H enc base spare held n cs xs hc hx he
  have h1 := he i f hf
  have hi : i < xs.length := by
    rw [hx]
    exact (Array.getElem?_eq_some_iff.1 hf).1
  rw [List.getElem?_eq_getElem hi, ho, List.take_of_length_le (by rw [List.length_drop]; omega)] at h1
  exact h H enc base spare held n _ _ h1
theorem OpnF.cons {α β : Type} {d1 : Kd α} {d2 : Kd β} {g1 : α → Prop} {g2 : β → Prop} {fs : Array Field} {size i off off' : Nat} (f : Field) (hf : fs[i]? = some f) (ho : f.offset = off) (hs : off + P.cellsOf f.type = off') (h : Opn P w f.type d1 g1)
    (hr : OpnF P w fs size (i + 1) off' d2 g2) : OpnF P w fs size i off (Kd.pair d1 d2) (fun x => g1 x.1 ∧ g2 x.2) := by
  intro H enc base spare held n cs xs hc hx he
  have h1 := he i f hf
  have hi : i < xs.length := by
    rw [hx]
    exact (Array.getElem?_eq_some_iff.1 hf).1
  rw [List.getElem?_eq_getElem hi, ho] at h1
  obtain ⟨a, ha, hga⟩ := h H enc base spare held n _ _ h1
  obtain ⟨b, hb, hgb⟩ := hr H enc base spare held n cs xs hc hx he
  refine ⟨(a, b), ⟨_, _, ?_, ha, hb⟩, hga, hgb⟩
  rw [← hs, ← List.drop_drop, List.take_append_drop]
theorem Opn.struct {α : Type} {d : Kd α} {g : α → Prop} {fs : Array Field} (ht : P.underlying t = some (.struct fs)) (h : OpnF P w fs (P.cellsOf t) 0 0 d g) : Opn P w t d g := by
  intro H enc base spare held fuel cs x hx
  obtain ⟨xs, n, rfl, rfl, hc, hl, he⟩ := DataW.trod_struct ht hx
  exact h H enc base spare held n cs xs hc hl he
theorem choose_list {α : Type} {p : Nat → α → Prop} : ∀ n, (∀ i, i < n → ∃ a, p i a) → ∃ l : List α, l.length = n ∧ ∀ i a, l[i]? = some a → p i a
  | 0, _ => ⟨[], rfl, fun i a h => by simp at h⟩
  | n + 1, h => by
    obtain ⟨l, hl, hp⟩ := choose_list n (fun i hi => h i (by omega))
    obtain ⟨a, ha⟩ := h n (by omega)
    refine ⟨l ++ [a], by simp [hl], fun i b hb => ?_⟩
    rcases Nat.lt_or_ge i n with h1 | h1
    · rw [List.getElem?_append_left (by omega)] at hb
      exact hp i b hb
    · have h2 := (List.getElem?_eq_some_iff.1 hb).1
      simp only [List.length_append, List.length_cons, List.length_nil] at h2
      obtain rfl : i = n := by omega
      rw [List.getElem?_append_right (by omega), hl, Nat.sub_self] at hb
      simp at hb
      subst hb
      exact ha
theorem Opn.slice {α : Type} {d : Kd α} {g : α → Prop} {e : TypeId} (ht : P.underlying t = some (.slice e)) (hz : P.cellsOf e = d.sz) (h : Opn P w e d g) : Opn P w t (Kd.slice e d) (fun l => l.length ≤ maxLen ∧ ∀ a ∈ l, g a) := by
  intro H enc base spare held fuel cs x hx
  rcases DataW.trod_slice ht hx with ⟨rfl, rfl⟩ | ⟨a, len, cap, elems, rest, n, _, rfl, rfl, hb, hl, hm, hlen, hel, _, _⟩
  · exact ⟨[], ⟨none, 0, rfl, Nat.le_refl _, rfl, by simp, fun h0 => absurd h0 (Nat.lt_irrefl 0)⟩, by simp, fun a ha => by cases ha⟩
  · obtain ⟨l, hll, hp⟩ := choose_list (p := fun i v => (∃ c, c.length = d.sz ∧ d.K w v c ∧ ∀ j u, c[j]? = some u → w.cell? (a.add (i * d.sz + j)) = some u) ∧ g v) len (fun i hi => by
      have h1 := hel i hi
      rw [List.getElem?_eq_getElem (by omega), Option.bind_eq_some_iff] at h1
      obtain ⟨c, hc, h2⟩ := h1
      obtain ⟨v, hv, hg⟩ := h H enc base spare held n c _ h2
      obtain ⟨_, hcl, hcell⟩ := World.cells?_some hc
      refine ⟨v, ⟨c, by rw [hcl, hz], hv, fun j u hu => ?_⟩, hg⟩
      have hj := (List.getElem?_eq_some_iff.1 hu).1
      have h3 := hcell j (by omega)
      rw [Addr.add_add, hz] at h3
      rw [h3, hu])
    refine ⟨l, ⟨some a, cap, by rw [hll], by omega, rfl, by simp only [maxLen] at hm; omega, fun _ => ⟨a, rfl, fun j p hj => ?_⟩⟩, by omega, fun v hv => ?_⟩
    · obtain ⟨⟨c, hcl, hk, hcell⟩, _⟩ := hp j p hj
      exact ⟨c, hcl, hk, hcell⟩
    · obtain ⟨i, hi⟩ := List.getElem?_of_mem hv
      exact (hp i v hi).2
theorem Opn.arg {α : Type} {d : Kd α} {g : α → Prop} (h : Opn P w t d g) {H : Type} {enc : TypeId × Value → H} {base : Nat} {spare : Nat → Bool} {held : Bool} {v : Value} {dd : DataW H} {ps : List MemPlace} (hd : DataW.Trod enc P w base spare held t v dd ps) :
    ∃ a, d.K w a v.cells.toList ∧ g a := by
  obtain ⟨fuel, hf⟩ := hd
  exact h H enc base spare held fuel _ _ hf
theorem Opn.argSlice {α : Type} {d : Kd α} {g : α → Prop} {e : TypeId} (ht : P.underlying t = some (.slice e)) (hz : P.cellsOf e = d.sz) (h : Opn P w e d g) {H : Type} {enc : TypeId × Value → H} {spare : Nat → Bool} {held : Bool} {v : Value} {dd : DataW H} {ps : List MemPlace} {b : Nat} {r : Reach}
    (hv : Value.okWide P w r b t v) (hd : DataW.Trod enc P w 0 spare held t v dd ps) :
    ∃ (l : List α) (A : Option Addr) (c : Nat), v = .slice A l.length c ∧ l.length ≤ c ∧ d.C w A l.length l ∧ l.length ≤ maxLen ∧ ∀ a ∈ l, g a := by
  obtain ⟨A0, len, cap, rfl⟩ := WideShapes.okWide_slice ht hv
  obtain ⟨l, ⟨A, c, e1, hc, hr⟩, hl, hg⟩ := (Opn.slice ht hz h).arg hd
  simp only [Value.cells, List.cons.injEq, and_true] at e1
  exact ⟨l, A, c, e1, hc, hr, hl, hg⟩
end
end Go.Proofs.YtikjbfjnbhaljaaGreatDoorM
end

section
set_option linter.unusedVariables false
set_option linter.unusedSimpArgs false
namespace Go.Proofs.YtikjbfjnbhaljaaGreatDoorM
open Go.RowKit Go.Maps Go.Proofs.YtikjbfjnbhaljaaGreatDoorW.PrintWords
def mgetD {κ α : Type} [DecidableEq κ] (z : α) (m : List (κ × α)) (s : κ) : α := m.foldl (fun a p => if p.1 = s then p.2 else a) z
def mhas {κ α : Type} [DecidableEq κ] (m : List (κ × α)) (s : κ) : Bool := m.any fun p => decide (p.1 = s)
structure EK (α : Type) where
  enc : α → Value
  den : α → DataW Unit
  R : Value → Option (DataW Unit × List MemPlace)
  R_enc : ∀ x, R (enc x) = some (den x, [])
  R_inv : ∀ v x ps, R v = some (den x, ps) → v = enc x
def ekI64 : EK Int where
  enc x := .int .i64 x
  den x := .lit (.int .i64 x)
  R v := match v with
    | .int .i64 a => some (.lit (.int .i64 a), [])
    | _ => none
  R_enc _ := rfl
  R_inv v x ps h := by
    split at h
    · injection h with h
      injection h with h _
      injection h with h
      injection h with _ h
      rw [h]
    · cases h
def ekBool : EK Bool where
  enc x := .bool x
  den x := .lit (.bool x)
  R v := match v with
    | .bool a => some (.lit (.bool a), [])
    | _ => none
  R_enc _ := rfl
  R_inv v x ps h := by
    split at h
    · injection h with h
      injection h with h _
      injection h with h
      injection h with h
      rw [h]
    · cases h
structure KK (P : Program) (k : TypeId) (κ : Type) where
  enc : κ → Value
  lit : κ → Lit
  inj : ∀ a b, lit a = lit b → a = b
  isKey : ∀ a, WideAt.IsKeyLit (lit a)
  keyed : Keyed P k
  ok : κ → Prop
  key : ∀ a, ok a → keyOf P k (enc a) = some (lit a)
def kkStr (P : Program) (k : TypeId) (h : P.underlying k = some .string) : KK P k ByteArray where
  enc s := .string s
  lit s := .string s.data.toList
  inj a b h := by
    injection h with h
    cases a with
    | mk a => cases b with
      | mk b => exact congrArg ByteArray.mk (Array.toList_inj.1 h)
  isKey _ := trivial
  keyed := string_keyed h
  ok s := s.size ≤ 9223372036854775807
  key s hs := WideMaps.keyOf_string_mk h hs
section
variable {P : Program} {k : TypeId} {κ α : Type} (X : KK P k κ) (Y : EK α)
def den (m : List (κ × α)) : DataW Unit := m.foldl (fun D p => D.put (X.lit p.1) (Y.den p.2)) (.map [])
theorem den_isMap (m : List (κ × α)) : IsMap (den X Y m) := by
  unfold den
  have : ∀ (m : List (κ × α)) (D : DataW Unit), IsMap D → IsMap (m.foldl (fun D p => D.put (X.lit p.1) (Y.den p.2)) D) := by
    intro m
    induction m with
    | nil => exact fun D h => h
    | cons p m ih => exact fun D h => ih _ (h.put _ _)
  exact this m _ isMap_empty
theorem den_snoc (m : List (κ × α)) (s : κ) (x : α) : den X Y (m ++ [(s, x)]) = (den X Y m).put (X.lit s) (Y.den x) := by
  unfold den
  rw [List.foldl_append]
  rfl
theorem mgetD_snoc [DecidableEq κ] (z : α) (m : List (κ × α)) (s : κ) (x : α) (t : κ) : mgetD z (m ++ [(s, x)]) t = if s = t then x else mgetD z m t := by
  unfold mgetD
  rw [List.foldl_append]
  rfl
theorem mhas_snoc [DecidableEq κ] (m : List (κ × α)) (s : κ) (x : α) (t : κ) : mhas (m ++ [(s, x)]) t = (mhas m t || decide (s = t)) := by
  unfold mhas
  rw [List.any_append]
  simp
theorem den_get [DecidableEq κ] (z : α) (s : κ) (m : List (κ × α)) : (den X Y m).atKey (X.lit s) (Y.den z) = Y.den (mgetD z m s) := by
  have : ∀ n (m : List (κ × α)), m.length = n → (den X Y m).atKey (X.lit s) (Y.den z) = Y.den (mgetD z m s) := by
    intro n
    induction n with
    | zero =>
      intro m hm
      obtain rfl := List.eq_nil_of_length_eq_zero hm
      rfl
    | succ n ih =>
      intro m hm
      have hne : m ≠ [] := fun h => by simp [h] at hm
      obtain ⟨m', p, rfl⟩ : ∃ m' p, m = m' ++ [p] := ⟨m.dropLast, m.getLast hne, (List.dropLast_concat_getLast hne).symm⟩
      have hl : m'.length = n := by simpa using hm
      rw [den_snoc, mgetD_snoc]
      by_cases h : p.1 = s
      · rw [if_pos h, h]
        exact atKey_put_same (den_isMap X Y m') (X.isKey s) _ _
      · rw [if_neg h, atKey_put_other (fun e => h (X.inj _ _ e).symm)]
        exact ih m' hl
  exact this _ m rfl
theorem den_has [DecidableEq κ] (s : κ) (m : List (κ × α)) : has (den X Y m) (X.lit s) = mhas m s := by
  have : ∀ n (m : List (κ × α)), m.length = n → has (den X Y m) (X.lit s) = mhas m s := by
    intro n
    induction n with
    | zero =>
      intro m hm
      obtain rfl := List.eq_nil_of_length_eq_zero hm
      rfl
    | succ n ih =>
      intro m hm
      have hne : m ≠ [] := fun h => by simp [h] at hm
      obtain ⟨m', p, rfl⟩ : ∃ m' p, m = m' ++ [p] := ⟨m.dropLast, m.getLast hne, (List.dropLast_concat_getLast hne).symm⟩
      have hl : m'.length = n := by simpa using hm
      rw [den_snoc, mhas_snoc]
      by_cases h : p.1 = s
      · rw [h, has_put_same (den_isMap X Y m') (X.isKey s)]
        simp
      · rw [has_put_other (fun e => h (X.inj _ _ e).symm), ih m' hl]
        simp [h]
  exact this _ m rfl
def MapAt (W : World) (g : Nat) (m : List (κ × α)) : Prop := W.ownsMap P k Y.R g m.length (den X Y m)
variable {X Y} {W W1 w1 : World} {g : Nat} {m : List (κ × α)}
theorem MapAt.lt (h : MapAt X Y W g m) : g < W.heap.size := World.ownsMap.lt h
theorem MapAt.obj (h : MapAt X Y W g m) : ∃ es c, W.heap[g]? = some (.map es c) := by
  obtain ⟨es, c, hb, _⟩ := h
  exact ⟨es, c, hb⟩
theorem MapAt.move (h : MapAt X Y W g m) (hm : W1.heap[g]? = W.heap[g]?) : MapAt X Y W1 g m := by
  obtain ⟨es, c, hb, hr⟩ := h
  exact ⟨es, c, hm.trans hb, hr⟩
theorem MapAt.alloc (h : MapAt X Y W g m) (o : Obj) : MapAt X Y (W.alloc o) g m := World.ownsMap.alloc h o
theorem MapAt.drew (h : MapAt X Y W g m) : MapAt X Y W.drew g m := h
theorem MapAt.drewN (h : MapAt X Y W g m) (n : Nat) : MapAt X Y (W.drewN n) g m := h
theorem MapAt.set_ (h : MapAt X Y W g m) (p : Addr) (u : Value) : MapAt X Y (W.setCell p u) g m := by
  obtain ⟨es, c, hb, hr⟩ := h
  refine ⟨es, c, ?_, hr⟩
  unfold World.setCell
  simp only [Array.getElem?_modify, hb]
  by_cases e : p.block = g <;> simp [e, hb]
theorem MapAt.below (h : MapAt X Y W g m) (hb : Below W.heap.size W W1) : MapAt X Y W1 g m := h.move (hb.block g h.lt)
theorem MapAt.at_ {W0 : World} (hq : W = W0) (h : MapAt X Y W g m) : MapAt X Y W0 g m := hq ▸ h
theorem MapAt.grown {v : Value} {e : Nat} (h : MapAt X Y W g m) (hty : ∀ q, v.ownBlock = some q → ∃ cells, W.heap[q]? = some (.cells cells e (0, 0))) (hg : W.grownBy W1 v.ownBlock) : MapAt X Y W1 g m := by
  refine h.move (hg.block g h.lt ?_)
  intro he
  obtain ⟨cells, hc⟩ := hty g he.symm
  obtain ⟨es, c, hm⟩ := h.obj
  rw [hm] at hc
  cases hc
theorem far_row {α' : Type} {d : Kd α'} {e base : Nat} {ok : Nat → Prop} {v : Value} {xs : List α'} (hm : MapAt X Y W g m) (hg : W.grownBy W1 (some g)) (h : d.R e W base ok v xs) : d.R e W1 base ok v xs := by
  refine Kd.R_mono (Kd.R_move (Kd.R_bound h) ?_) (fun _ h => h.1)
  intro q hq
  obtain ⟨_, _, hlt, _, _, cells, hc⟩ := hq
  refine hg.block q hlt ?_
  intro he
  injection he with he
  subst he
  obtain ⟨es, c, hm⟩ := hm.obj
  rw [hm] at hc
  cases hc
theorem far_blk {gb : Nat} {t : TypeId} {cs : Array Value} (hm : MapAt X Y W g m) (hg : W.grownBy W1 (some g)) (h : W.heap[gb]? = some (.cells cs t (0, 0))) : W1.heap[gb]? = some (.cells cs t (0, 0)) := by
  have hlt := (Array.getElem?_eq_some_iff.1 h).1
  refine (hg.block gb hlt ?_).trans h
  intro he
  injection he with he
  subst he
  obtain ⟨es, c, hm⟩ := hm.obj
  rw [hm] at h
  cases h
theorem far_below {B : Nat} {w : World} (hB : B ≤ g) (hBW : B ≤ W.heap.size) (hg : W.grownBy W1 (some g)) (h : Below B w W) : Below B w W1 := h.grown hg hBW (fun q hq => by injection hq with hq; omega)
end
section
variable {P : Program} {ops : Array Oper} {rest : List Oper} {o : Oper} {a : Act} {Q : Exit → Act → World → Prop} {W : World} {k : TypeId} {κ α : Type}
theorem map_new (X : KK P k κ) (Y : EK α) (hgd : o.guard = none) {N : Tmp} (_hd : o.dst = some N) (t : TypeId) (ho : o.op = .makeMap t none)
    (h : ∀ g, g = W.heap.size → ∀ w1, MapAt X Y w1 g [] → Below W.heap.size W w1 → wpList P ops Q rest (a.put o.dst (.map (some g))) w1) : wpList P ops Q (o :: rest) a W := by
  refine wpList_plain hgd fun K hK => ?_
  unfold Oper.wp
  have hr : (execOp a.eval o).run P W = .ok (.value (.map (some W.heap.size))) (W.alloc (.map #[] 0)) := by
    simp [execOp, ho, run_makeMap, Result.andThen]
  rw [hr]
  exact hK _ _ (h _ rfl _ (World.ownsMap_made W P k Y.R) (below_alloc (Below.refl _ _) _))
theorem map_look [DecidableEq κ] (X : KK P k κ) (Y : EK α) (hgd : o.guard = none) {N : Tmp} (_hd : o.dst = some N) (t e : TypeId) (x y : Operand) (ho : o.op = .lookup t x y false) (z : α)
    (ht : P.underlying t = some (.map k e)) (hz : (zeroValue e).run P W = .ok (Y.enc z) W) (g : Nat) (m : List (κ × α)) (s : κ) (hx : a.eval x = .map (some g)) (hy : a.eval y = X.enc s) (hok : X.ok s)
    (HM : MapAt X Y W g m) (h : wpList P ops Q rest (a.put o.dst (Y.enc (mgetD z m s))) W) : wpList P ops Q (o :: rest) a W := by
  refine wpList_plain hgd fun K hK => ?_
  obtain ⟨v, ps, hrun, hv⟩ := World.ownsMap.lookup HM X.keyed ht hz (Y.R_enc z) (X.key s hok)
  rw [den_get] at hv
  obtain rfl := Y.R_inv _ _ _ hv
  unfold Oper.wp
  simp [execOp, ho, hx, hy, hrun, Result.andThen]
  exact hK _ _ h
theorem map_put (X : KK P k κ) (Y : EK α) (hgd : o.guard = none) (t e : TypeId) (p : Tmp) (y v : Operand) (ho : o.op = .mapUpdate t (.tmp p) y v)
    (ht : P.underlying t = some (.map k e)) (g : Nat) (m : List (κ × α)) (s : κ) (x : α) (hx : a.eval (.tmp p) = .map (some g)) (hy : a.eval y = X.enc s) (hok : X.ok s) (hv : a.eval v = Y.enc x)
    (HM : MapAt X Y W g m) (hn : m.length < 1099511627776) (h : ∀ w1, MapAt X Y w1 g (m ++ [(s, x)]) → W.grownBy w1 (some g) → wpList P ops Q rest (a.put o.dst undef) w1) : wpList P ops Q (o :: rest) a W := by
  refine wpList_plain hgd fun K hK => ?_
  obtain ⟨w', hrun, r1, r2⟩ := World.ownsMap.update HM X.keyed ht (by simp only [maxLen]; omega) (X.key s hok) (Y.R_enc x)
  unfold Oper.wp
  simp [execOp, ho, hx, hy, hv, hrun, Result.andThen]
  refine hK _ _ (h w' ?_ r2)
  unfold MapAt
  rw [den_snoc, List.length_append]
  exact r1
theorem gate_put {t : TypeId} {p : Tmp} {y v : Operand} (_ho : o.op = .mapUpdate t (.tmp p) y v) (h : wpList P ops Q (o :: rest) a W) : wpList P ops Q (o :: rest) a W := h
theorem conv_bytes (hgd : o.guard = none) {N : Tmp} (_hd : o.dst = some N) (src dst e : TypeId) (x : Operand) (ho : o.op = .convert src dst x) {u : TypeDesc} (hs : P.underlying src = some u) (hdt : P.underlying dst = some (.slice e)) (he : P.underlying e = some (.int .u8))
    (s : ByteArray) (hx : a.eval x = .string s) (hn : s.size ≤ 9223372036854775807) (y : List Int) (hy : y = bytesOf s)
    (h : ∀ A c w1, (Kd.int .u8).C w1 A y.length y → y.length ≤ c → Below W.heap.size W w1 → wpList P ops Q rest (a.put o.dst (.slice A y.length c)) w1) : wpList P ops Q (o :: rest) a W := by
  subst hy
  refine wpList_plain hgd fun K hK => ?_
  have hr : (execOp a.eval o).run P W = .ok (.value (.slice (some ⟨W.heap.size, 0, none⟩) s.size (grownCap W s.size 0 e))) (Lib.bytesWorld W e s) := by
    simp [execOp, ho, hx, print_bytes (P := P) src dst e hs hdt he s W, Result.andThen]
  unfold Oper.wp
  rw [hr]
  refine hK _ _ ?_
  have hl := bytesOf_length s
  have hc := bytes_reads W e s hn
  rw [← hl] at hc ⊢
  exact h _ _ _ (Kd.C_of_reads (h1 := fun _ => rfl) (readsInt_of.1 hc)) (by rw [hl]; exact grownCap_ge W s.size 0 e) (bytes_below (Below.refl _ _) (Nat.le_refl _) e s)
theorem print_append_str_step {Kc : Act → World → Prop} {w0 : World} (base : Nat) (hw : Region.wanted o (yielded ops a.tmps) = true) (s x : Operand) (t u e : TypeId)
    (ho : o.op = .call { callee := .builtin .append, args := #[s, x], argTypes := #[t, u] })
    (ht : P.underlying t = some (.slice e)) (hu : P.underlying u = some .string) (hinfo : (P.info? e).map (fun i => (i.zero, i.size, i.bytes)) = some (some (.int .u8 0), 1, 1))
    (v : Value) (xs : List Int) (y : ByteArray) (hs : a.eval s = v) (hx : a.eval x = .string y)
    (HO : W.ownsRow base e 1 v xs.length (nums .u8 xs)) (HB : Below base w0 W) (hbase : base ≤ W.heap.size) (hl : xs.length + y.size ≤ 140737488355328)
    (h : ∀ v1 w1, w1.ownsRow base e 1 v1 (xs ++ bytesOf y).length (nums .u8 (xs ++ bytesOf y)) → Below base w0 w1 → W.grownBy w1 v.ownBlock → Kc (a.put o.dst v1) w1) :
    if Region.wanted o (yielded ops a.tmps) = true then Oper.wp P o a W Kc Q else Kc (a.put o.dst undef) W := by
  obtain ⟨i0, hi, hzz⟩ := Option.map_eq_some_iff.1 hinfo
  simp only [Prod.mk.injEq] at hzz
  obtain ⟨hz0, hz1, hz2⟩ := hzz
  obtain ⟨v1, w1, hr, hown, hg, _⟩ := Lib.run_append_own_string (P := P) W base t u o.type e i0 ht hu hi hz0 hz1 hz2 v xs.length (nums .u8 xs) HO y (by simp only [maxLen]; omega) hl hbase
  have hl2 : (xs ++ bytesOf y).length = xs.length + y.size := by rw [List.length_append, bytesOf_length]
  have hc : nums .u8 (xs ++ bytesOf y) = nums .u8 xs ++ Lib.strCells y := by
    rw [nums_append]
    congr 1
    simp [nums, bytesOf, Lib.strCells]
  refine event_step hw (v := v1) (w1 := w1) ?_ (h v1 w1 (by rw [hl2, hc]; exact hown) (HB.grown hg hbase (own_base HO)) hg)
  unfold execOp
  simp only [ho, resolve, invoke, builtin, Sem.run_bind, Sem.run_pure, Result.andThen_ok, List.map_toArray, List.map_cons, List.map_nil, hs, hx, hr]
end
end Go.Proofs.YtikjbfjnbhaljaaGreatDoorM
end

section
namespace Go.Proofs.YtikjbfjnbhaljaaGreatDoorM
open Go.RowKit Go.Proofs.YtikjbfjnbhaljaaGreatDoorW.PrintWords Go.Proofs.YtikjbfjnbhaljaaGreatDoorW.PrintLast Go.Proofs.YtikjbfjnbhaljaaGreatDoorW.PrintMore
set_option linter.unusedVariables false
def bl_ : Nat → Nat → List Bool
  | 0, _ => []
  | n + 1, m => (m % 2).beq 1 :: bl_ n (m / 2)
def bs_ (n m : Nat) : Array Bool := ⟨bl_ n m⟩
section
variable {P : Program} {ops : Array Oper} {Q : Exit → Act → World → Prop} {md : Region.Mode} {S : World → Prop} {ds : List Nat} {T : Bool × List (List Nat × List Nat)} {B : List Nat}
theorem pS_ (i : Nat) {n m N : Nat} {oi : Oper} {v : Value} {fuel : Nat} {a a' : Act} {w : World} (h : wpAnyLast P md ops Q S ds fuel (bs_ n (m + 2 ^ i)) a' w)
    (hT : Aside0 (rtab md ops = T) := by assumption) (hi : ops[i]? = some oi := by exact rfl) (hN : oi.dst = some N := by exact rfl) (hc : anyT T (bs_ n m).toList (bs_ n (m + 2 ^ i)).toList i = true := by kernel_rfl)
    (hQ : ∀ c a w, Q (.panic c) (a.put oi.dst v) w → Q (.panic c) a w := by exact fun _ _ _ h => h)
    (hy : Yields P ops oi v a := by refine Or.inl ⟨by rfl, ?_⟩; intro w'; go_simp; with_reducible rfl)
    (ha : a.put (some N) v = a' := by simp only [Act.put, List.setIfInBounds_toArray, List.set_cons_zero, List.set_cons_succ, i64_w, i32_w]; rfl) : wpAnyLast P md ops Q S ds (fuel + 1) (bs_ n m) a w :=
  pure_ _ hi hN (any_of hT.out hc) hQ hy ha h
theorem pU_ (i : Nat) {n m N : Nat} {oi : Oper} {fuel : Nat} {a a' : Act} {w : World} (h : wpAnyLast P md ops Q S ds fuel (bs_ n (m + 2 ^ i)) a' w)
    (hT : Aside0 (rtab md ops = T) := by assumption) (hi : ops[i]? = some oi := by exact rfl) (hN : oi.dst = some N := by exact rfl) (hc : anyT T (bs_ n m).toList (bs_ n (m + 2 ^ i)).toList i = true := by kernel_rfl)
    (hQ : ∀ c a w, Q (.panic c) (a.put oi.dst undef) w → Q (.panic c) a w := by exact fun _ _ _ h => h)
    (hy : Yields P ops oi undef a := by exact Or.inr ⟨by rfl, rfl⟩)
    (ha : a.put (some N) undef = a' := by simp only [Act.put, List.setIfInBounds_toArray, List.set_cons_zero, List.set_cons_succ, i64_w, i32_w]; rfl) : wpAnyLast P md ops Q S ds (fuel + 1) (bs_ n m) a w :=
  pure_ _ hi hN (any_of hT.out hc) hQ hy ha h
theorem oS_ (i : Nat) {n m N : Nat} {oi : Oper} {fuel : Nat} {a : Act} {w : World}
    (h : ∀ K : Act → World → Prop, Shut (∀ a' w', S w' → (S w' → wpAnyLast P md ops Q S ds fuel (bs_ n (m + 2 ^ i)) a' w') → K a' w') → if Region.wanted oi (yielded ops a.tmps) = true then Oper.wp P oi a w K Q else K (a.put (some N) undef) w)
    (hT : Aside0 (rtab md ops = T) := by assumption) (hi : ops[i]? = some oi := by exact rfl) (hN : oi.dst = some N := by exact rfl) (hc : (readyT T.2 (bs_ n m).toList == [i] && (bs_ n m).toList.set i true == (bs_ n (m + 2 ^ i)).toList) = true := by kernel_rfl) (hd : i ∉ ds := by decide) : wpAnyLast P md ops Q S ds (fuel + 1) (bs_ n m) a w :=
  one_ _ hi hN (one_of hT.out hc) hd h
theorem nS_ (N : Nat) {fuel : Nat} {l : Array Bool} {a a' : Act} {v : Value} {w : World} (h : wpAnyLast P md ops Q S ds fuel l a' w)
    (ha : a.put (some N) v = a' := by show Act.put _ _ _ = _; simp only [Act.put, List.setIfInBounds_toArray, List.set_cons_zero, List.set_cons_succ, i64_w, i32_w]; rfl) : wpAnyLast P md ops Q S ds fuel l (a.put (some N) v) w :=
  norm_ ha h
theorem t2_ (i : Nat) {n m N : Nat}  {w : World} (hS : S w) {oi : Oper} {v : Value} {fuel : Nat} {a a' : Act} (h : wpAnyLast P md ops Q S ds fuel (bs_ n (m + 2 ^ i)) a' w)
    (hT : Aside0 (rtab md ops = T) := by assumption) (hB : Aside0 (waitsOk T.2 B = true) := by assumption) (hi : ops[i]? = some oi := by exact rfl) (hN : oi.dst = some N := by exact rfl) (hc : takeW T B ds (bs_ n m).toList (bs_ n (m + 2 ^ i)).toList i = true := by kernel_rfl)
    (hQ : ∀ c a w, Q (.panic c) (a.put oi.dst v) w → Q (.panic c) a w := by exact fun _ _ _ h => h)
    (hy : YieldsIf P ops S oi v a := by refine Or.inl ⟨by rfl, ?_⟩; rintro w' ⟨s0, s1⟩; go_simp; with_reducible rfl)
    (ha : a.put (some N) v = a' := by simp only [Act.put, List.setIfInBounds_toArray, List.set_cons_zero, List.set_cons_succ, i64_w, i32_w]; rfl) : wpAnyLast P md ops Q S ds (fuel + 1) (bs_ n m) a w :=
  take_ _ hi hN (take_ofW hT.out hB.out hc) hQ hy hS ha h
theorem t4_ (i : Nat) {n m N : Nat}  {w : World} (hS : S w) {oi : Oper} {v : Value} {fuel : Nat} {a a' : Act} (h : wpAnyLast P md ops Q S ds fuel (bs_ n (m + 2 ^ i)) a' w)
    (hT : Aside0 (rtab md ops = T) := by assumption) (hB : Aside0 (waitsOk T.2 B = true) := by assumption) (hi : ops[i]? = some oi := by exact rfl) (hN : oi.dst = some N := by exact rfl) (hc : takeW T B ds (bs_ n m).toList (bs_ n (m + 2 ^ i)).toList i = true := by kernel_rfl)
    (hQ : ∀ c a w, Q (.panic c) (a.put oi.dst v) w → Q (.panic c) a w := by exact fun _ _ _ h => h)
    (hy : YieldsIf P ops S oi v a := by refine Or.inl ⟨by rfl, ?_⟩; rintro w' ⟨s0, s1, s2, s3⟩; go_simp; with_reducible rfl)
    (ha : a.put (some N) v = a' := by simp only [Act.put, List.setIfInBounds_toArray, List.set_cons_zero, List.set_cons_succ, i64_w, i32_w]; rfl) : wpAnyLast P md ops Q S ds (fuel + 1) (bs_ n m) a w :=
  take_ _ hi hN (take_ofW hT.out hB.out hc) hQ hy hS ha h
theorem t5_ (i : Nat) {n m N : Nat}  {w : World} (hS : S w) {oi : Oper} {v : Value} {fuel : Nat} {a a' : Act} (h : wpAnyLast P md ops Q S ds fuel (bs_ n (m + 2 ^ i)) a' w)
    (hT : Aside0 (rtab md ops = T) := by assumption) (hB : Aside0 (waitsOk T.2 B = true) := by assumption) (hi : ops[i]? = some oi := by exact rfl) (hN : oi.dst = some N := by exact rfl) (hc : takeW T B ds (bs_ n m).toList (bs_ n (m + 2 ^ i)).toList i = true := by kernel_rfl)
    (hQ : ∀ c a w, Q (.panic c) (a.put oi.dst v) w → Q (.panic c) a w := by exact fun _ _ _ h => h)
    (hy : YieldsIf P ops S oi v a := by refine Or.inl ⟨by rfl, ?_⟩; rintro w' ⟨s0, s1, s2, s3, s4⟩; go_simp; with_reducible rfl)
    (ha : a.put (some N) v = a' := by simp only [Act.put, List.setIfInBounds_toArray, List.set_cons_zero, List.set_cons_succ, i64_w, i32_w]; rfl) : wpAnyLast P md ops Q S ds (fuel + 1) (bs_ n m) a w :=
  take_ _ hi hN (take_ofW hT.out hB.out hc) hQ hy hS ha h
theorem t7_ (i : Nat) {n m N : Nat}  {w : World} (hS : S w) {oi : Oper} {v : Value} {fuel : Nat} {a a' : Act} (h : wpAnyLast P md ops Q S ds fuel (bs_ n (m + 2 ^ i)) a' w)
    (hT : Aside0 (rtab md ops = T) := by assumption) (hB : Aside0 (waitsOk T.2 B = true) := by assumption) (hi : ops[i]? = some oi := by exact rfl) (hN : oi.dst = some N := by exact rfl) (hc : takeW T B ds (bs_ n m).toList (bs_ n (m + 2 ^ i)).toList i = true := by kernel_rfl)
    (hQ : ∀ c a w, Q (.panic c) (a.put oi.dst v) w → Q (.panic c) a w := by exact fun _ _ _ h => h)
    (hy : YieldsIf P ops S oi v a := by refine Or.inl ⟨by rfl, ?_⟩; rintro w' ⟨s0, s1, s2, s3, s4, s5, s6⟩; go_simp; with_reducible rfl)
    (ha : a.put (some N) v = a' := by simp only [Act.put, List.setIfInBounds_toArray, List.set_cons_zero, List.set_cons_succ, i64_w, i32_w]; rfl) : wpAnyLast P md ops Q S ds (fuel + 1) (bs_ n m) a w :=
  take_ _ hi hN (take_ofW hT.out hB.out hc) hQ hy hS ha h
theorem t8_ (i : Nat) {n m N : Nat}  {w : World} (hS : S w) {oi : Oper} {v : Value} {fuel : Nat} {a a' : Act} (h : wpAnyLast P md ops Q S ds fuel (bs_ n (m + 2 ^ i)) a' w)
    (hT : Aside0 (rtab md ops = T) := by assumption) (hB : Aside0 (waitsOk T.2 B = true) := by assumption) (hi : ops[i]? = some oi := by exact rfl) (hN : oi.dst = some N := by exact rfl) (hc : takeW T B ds (bs_ n m).toList (bs_ n (m + 2 ^ i)).toList i = true := by kernel_rfl)
    (hQ : ∀ c a w, Q (.panic c) (a.put oi.dst v) w → Q (.panic c) a w := by exact fun _ _ _ h => h)
    (hy : YieldsIf P ops S oi v a := by refine Or.inl ⟨by rfl, ?_⟩; rintro w' ⟨s0, s1, s2, s3, s4, s5, s6, s7⟩; go_simp; with_reducible rfl)
    (ha : a.put (some N) v = a' := by simp only [Act.put, List.setIfInBounds_toArray, List.set_cons_zero, List.set_cons_succ, i64_w, i32_w]; rfl) : wpAnyLast P md ops Q S ds (fuel + 1) (bs_ n m) a w :=
  take_ _ hi hN (take_ofW hT.out hB.out hc) hQ hy hS ha h
theorem t10_ (i : Nat) {n m N : Nat}  {w : World} (hS : S w) {oi : Oper} {v : Value} {fuel : Nat} {a a' : Act} (h : wpAnyLast P md ops Q S ds fuel (bs_ n (m + 2 ^ i)) a' w)
    (hT : Aside0 (rtab md ops = T) := by assumption) (hB : Aside0 (waitsOk T.2 B = true) := by assumption) (hi : ops[i]? = some oi := by exact rfl) (hN : oi.dst = some N := by exact rfl) (hc : takeW T B ds (bs_ n m).toList (bs_ n (m + 2 ^ i)).toList i = true := by kernel_rfl)
    (hQ : ∀ c a w, Q (.panic c) (a.put oi.dst v) w → Q (.panic c) a w := by exact fun _ _ _ h => h)
    (hy : YieldsIf P ops S oi v a := by refine Or.inl ⟨by rfl, ?_⟩; rintro w' ⟨s0, s1, s2, s3, s4, s5, s6, s7, s8, s9⟩; go_simp; with_reducible rfl)
    (ha : a.put (some N) v = a' := by simp only [Act.put, List.setIfInBounds_toArray, List.set_cons_zero, List.set_cons_succ, i64_w, i32_w]; rfl) : wpAnyLast P md ops Q S ds (fuel + 1) (bs_ n m) a w :=
  take_ _ hi hN (take_ofW hT.out hB.out hc) hQ hy hS ha h
theorem t12_ (i : Nat) {n m N : Nat}  {w : World} (hS : S w) {oi : Oper} {v : Value} {fuel : Nat} {a a' : Act} (h : wpAnyLast P md ops Q S ds fuel (bs_ n (m + 2 ^ i)) a' w)
    (hT : Aside0 (rtab md ops = T) := by assumption) (hB : Aside0 (waitsOk T.2 B = true) := by assumption) (hi : ops[i]? = some oi := by exact rfl) (hN : oi.dst = some N := by exact rfl) (hc : takeW T B ds (bs_ n m).toList (bs_ n (m + 2 ^ i)).toList i = true := by kernel_rfl)
    (hQ : ∀ c a w, Q (.panic c) (a.put oi.dst v) w → Q (.panic c) a w := by exact fun _ _ _ h => h)
    (hy : YieldsIf P ops S oi v a := by refine Or.inl ⟨by rfl, ?_⟩; rintro w' ⟨s0, s1, s2, s3, s4, s5, s6, s7, s8, s9, s10, s11⟩; go_simp; with_reducible rfl)
    (ha : a.put (some N) v = a' := by simp only [Act.put, List.setIfInBounds_toArray, List.set_cons_zero, List.set_cons_succ, i64_w, i32_w]; rfl) : wpAnyLast P md ops Q S ds (fuel + 1) (bs_ n m) a w :=
  take_ _ hi hN (take_ofW hT.out hB.out hc) hQ hy hS ha h
theorem bw_ {n : Nat} {w w1 w2 : World} (HB : Aside0 (Below n w w1)) (h : Below n w w1 → Below n w w2 := by intro hB_; repeat (first | (with_reducible first | exact hB_ | apply below_alloc | apply pw_below_drewN | apply below_drew1) | exact hB_)) : Below n w w2 := h HB.out
theorem bw1_ {n g : Nat} {w w1 w2 : World} (HB : Aside0 (Below n w w1)) (G : Aside0 (n ≤ g)) (h : Below n w w1 → n ≤ g → Below n w w2 := by intro hB_ hG_; repeat (first | (with_reducible first | exact hB_ | apply below_alloc | apply pw_below_drewN | apply below_drew1 | refine below_set ?_ hG_) | exact hB_)) : Below n w w2 := h HB.out G.out
theorem bw2_ {n g g2 : Nat} {w w1 w2 : World} (HB : Aside0 (Below n w w1)) (G : Aside0 (n ≤ g)) (G2 : Aside0 (n ≤ g2)) (h : Below n w w1 → n ≤ g → n ≤ g2 → Below n w w2 := by intro hB_ hG_ hG2_; repeat (first | (with_reducible first | exact hB_ | apply below_alloc | apply pw_below_drewN | apply below_drew1 | refine below_set ?_ hG_ | refine below_set ?_ hG2_) | exact hB_)) : Below n w w2 := h HB.out G.out G2.out
theorem hX_ {w w1 : World} (HB : Aside0 (Below w.heap.size w w1)) {a : Addr} {v : Value} (h : w.cell? a = some v) : w1.cell? a = some v := (HB.out.cell (World.block_lt_of_cell? w _ h)).trans h
theorem dA_ {p : Prop} [Decidable p] (h : decide p = true := by first | (with_reducible assumption) | assumption) : p := of_decide_eq_true h
theorem eR_ {p : Prop} (h : p := by first | rfl | (simp [errW_none, errW_some] <;> rfl) | (simp [*, errW_none, errW_some] <;> rfl)) : p := h
theorem eS_ {p : Prop} (h : p := by first | rfl | (simp; done) | (simp [*]; done)) : p := h
theorem dR_ {p : Prop} (h : p := by repeat (first | exact Drawn0.refl _ | apply Drawn0.step)) : p := h
theorem cS_ {α : Type} {k : Kd α} {w w1 w2 : World} {A : Option Addr} {n : Nat} {l : List α} (H : Aside0 (Kd.C k w A n l)) (HB : Aside0 (Below w.heap.size w w1)) (h : Kd.C k w1 A n l → Kd.C k w2 A n l := by intro hC_; repeat (first | exact hC_ | (with_reducible refine Kd.C_alloc ?_ _) | (with_reducible refine Kd.C_drewN ?_ _) | (with_reducible refine Kd.C_drew ?_))) : Kd.C k w2 A n l := h (Kd.C_below H.out HB.out)
theorem bk_ {W1 W2 : World} {g : Nat} {o : Obj} (H : Aside0 (W1.heap[g]? = some o)) (h : W1.heap[g]? = some o → W2.heap[g]? = some o := by intro hK_; (with_reducible repeat (first | refine blk_drewN ?_ _ | refine blk_drew ?_ | refine blk_alloc ?_ _)); exact hK_) : W2.heap[g]? = some o := h H.out
theorem mp_ {k : TypeId} {κ α : Type} {X : KK P k κ} {Y : EK α} {W1 W2 : World} {g : Nat} {m : List (κ × α)} (H : Aside0 (MapAt X Y W1 g m)) (h : MapAt X Y W1 g m → MapAt X Y W2 g m := by intro hM_; (with_reducible repeat (first | refine MapAt.alloc ?_ _ | refine MapAt.drewN ?_ _ | refine MapAt.drew ?_ | refine MapAt.set_ ?_ _ _)); exact hM_) : MapAt X Y W2 g m := h H.out
theorem kr_ {α : Type} {d : Kd α} {e base : Nat} {ok : Nat → Prop} {v : Value} {l : List α} {W1 W2 : World} (H : Aside0 (Kd.R d e W1 base ok v l)) (h : Kd.R d e W1 base ok v l → Kd.R d e W2 base ok v l := by intro hR_; (with_reducible repeat (first | apply Kd.R_alloc | apply Kd.R_drewN | apply Kd.R_drew)); exact hR_) : Kd.R d e W2 base ok v l := h H.out
theorem ks_ {α : Type} {d : Kd α} {e base : Nat} {ok : Nat → Prop} {v : Value} {l : List α} {W1 W2 : World} (H : Aside0 (Kd.S d e W1 base ok v l)) (h : Kd.S d e W1 base ok v l → Kd.S d e W2 base ok v l := by intro hR_; (with_reducible repeat (first | apply Kd.S_alloc | apply Kd.S_drewN | apply Kd.S_drew)); exact hR_) : Kd.S d e W2 base ok v l := h H.out
theorem ge_ {n g : Nat} {w W : World} (hg : g = W.heap.size) (h : Below n w W) (h2 : Below n w W → n ≤ W.heap.size := by exact below_size) : n ≤ g := by rw [hg]; exact h2 h
theorem cz_ {W : World} {g : Nat} {cs : Array Value} {t : TypeId} (H : Aside0 (W.heap[g]? = some (.cells cs t (0, 0)))) (j : Nat) (v : Value) (h : cs[j]? = some v := by exact rfl) : W.cell? ⟨g, j, none⟩ = some v := (blk_cell H.out j).trans h
theorem bE_ {rest : List Oper} {o : Oper} {a : Act} {W : World} (N : Nat) (cs : Array Value) (t : TypeId)
    (h : ∀ g, g = W.heap.size → ∀ w1, w1.heap[g]? = some (.cells cs t (0, 0)) → Below W.heap.size W w1 → wpList P ops Q rest (a.put o.dst (.pointer (some ⟨g, 0, none⟩))) w1)
    (hd : o.dst = some N := by exact rfl) (hg : o.guard = none := by exact rfl)
    (hr : (execOp a.eval o).run P W = .ok (.value (.pointer (some ⟨W.heap.size, 0, none⟩))) (W.alloc (.cells cs t (0, 0))) := by first | (go_simp; done) | (go_simp; rfl)) : wpList P ops Q (o :: rest) a W := box_event hg hd hr h
theorem rH_ {β : Type} {y e : β} (hy : y = e) {p q : Prop} (H : p) (h : y = e → p → q := by intro hy_ H_; first | (rw [hy_]; with_reducible exact H_) | (have H2_ := (Option.bind_some _ _).symm.trans H_; rw [hy_]; with_reducible exact H2_) | (have H2_ := (Option.bind_some _ _).symm.trans H_; with_reducible exact H2_) | with_reducible exact H_ | (rw [hy_]; exact H_) | exact H_) : q := h hy H
theorem gS_ {oi : Oper} {N : Option Tmp} {a : Act} {w : World} {K : Act → World → Prop} {f : FuncId} {fn : Func} {az : Array Operand} {ts : Array TypeId} (hf : P.funcs[f]? = some fn) (args : Array Value)
    (h : Calls P f args w fun e w' => ∃ v, e = .returned v ∧ K (a.put N v) w')
    (hname : (fn.name == "runtime.NumGoroutine") = false := by kernel_rfl) (hb : fn.body.isSome = true := by exact rfl)
    (hw : Region.wanted oi (yielded ops a.tmps) = true := by rfl) (hN : oi.dst = N := by exact rfl) (hop : oi.op = .call { callee := .value (.func f), args := az, argTypes := ts } := by exact rfl)
    (hargs : az.map a.eval = args := by (try simp only [List.map_toArray, List.map_cons, List.map_nil]); first | done | rfl | (simp only [List.length_drop, List.length_take]; rfl)) : if Region.wanted oi (yielded ops a.tmps) = true then Oper.wp P oi a w K Q else K (a.put N undef) w :=
  goes_ hf hname hb args hw hN hop hargs h
theorem gL_ {rest : List Oper} {oi : Oper} {a : Act} {w : World} (N : Option Tmp) {f : FuncId} {fn : Func} {az : Array Operand} {ts : Array TypeId} (hf : P.funcs[f]? = some fn) (args : Array Value)
    (h : Calls P f args w fun e w' => ∃ v, e = .returned v ∧ wpList P ops Q rest (a.put N v) w')
    (hd : oi.dst = N := by exact rfl) (hg : oi.guard = none := by exact rfl) (hname : (fn.name == "runtime.NumGoroutine") = false := by kernel_rfl) (hb : fn.body.isSome = true := by exact rfl)
    (hop : oi.op = .call { callee := .value (.func f), args := az, argTypes := ts } := by exact rfl)
    (hargs : az.map a.eval = args := by (try simp only [List.map_toArray, List.map_cons, List.map_nil]); first | done | rfl | (simp only [List.length_drop, List.length_take]; rfl)) : wpList P ops Q (oi :: rest) a w :=
  goesL_ N hd hg hf hname hb args hop hargs h
end
end Go.Proofs.YtikjbfjnbhaljaaGreatDoorM
end

section
namespace Go.Proofs
open Go.Shelf
def Tryz.lays119_ren : Go.Shelf.Ren := ⟨fun | 119 => 132 | n => n, fun | 21 => 21 | 4 => 4 | n => n, fun | n => n⟩
theorem Tryz.lays119 : Go.Proofs.Lays.n119 Tryz.prog Tryz.lays119_ren := {
  mixed := by kernel_rfl
  f119 := Tryz.func132.trans (congrArg some (by kernel_rfl))
  t4 := Tryz.underlying4
  a4 := Tryz.isAgg4
  z4 := Tryz.sizeOf4
  v4 := Tryz.zeroValue4
  t21 := Tryz.underlying21
  a21 := Tryz.isAgg21
  z21 := Tryz.sizeOf21
  v21 := Tryz.zeroValue21 }
theorem Tryz.utf8_ValidRune (r : Int) (w : World) :
    Calls Tryz.prog 132 #[.int .i32 r] w fun e w' => e = .returned (.bool (Lib.validRune r)) ∧ w' = w := Any.utf8_ValidRune Tryz.lays119 r w
def Tryz.lays137_ren : Go.Shelf.Ren := ⟨fun | 137 => 108 | 217 => 115 | 266 => 133 | n => n, fun | 9 => 9 | 5 => 5 | 3 => 3 | n => n, fun | n => n⟩
theorem Tryz.lays137 : Go.Proofs.Lays.n137 Tryz.prog Tryz.lays137_ren := {
  mixed := by kernel_rfl
  f137 := Tryz.func108.trans (congrArg some (by kernel_rfl))
  f217 := Tryz.func115.trans (congrArg some (by kernel_rfl))
  f266 := Tryz.func133.trans (congrArg some (by kernel_rfl))
  t3 := Tryz.underlying3
  a3 := Tryz.isAgg3
  z3 := Tryz.sizeOf3
  v3 := Tryz.zeroValue3
  t5 := Tryz.underlying5
  a5 := Tryz.isAgg5
  z5 := Tryz.sizeOf5
  v5 := Tryz.zeroValue5
  t9 := Tryz.underlying9
  a9 := Tryz.isAgg9
  z9 := Tryz.sizeOf9
  v9 := Tryz.zeroValue9 }
open Go.RowKit in
/-- strings.IndexByte: "IndexByte returns the index of the first instance of c in s, or -1 if c is not present in s.": IT RETURNS 'Lib.indexByte s c'; the world is as it was. (LAID: no walk: one application.) -/
theorem Tryz.strings_IndexByte (s : ByteArray) (c : Int) (w : World) :
    Calls Tryz.prog 108 #[.string s, .int .u8 c] w fun e w' => e = .returned (.int .i64 (Lib.indexByte s.data.toList c.toNat.toUInt8)) ∧ w' = w := Any.strings_IndexByte Tryz.lays137 s c w
def Tryz.lays144_ren : Go.Shelf.Ren := ⟨fun | 144 => 82 | 143 => 101 | 219 => 111 | 217 => 115 | 225 => 118 | 224 => 119 | 267 => 120 | 266 => 133 | 314 => 136 | n => n, fun | 9 => 9 | 4 => 4 | 3 => 3 | 5 => 5 | 46 => 109 | 146 => 135 | 51 => 131 | n => n, fun | 1 => 0 | n => n⟩
theorem Tryz.lays144 : Go.Proofs.Lays.n144 Tryz.prog Tryz.lays144_ren := {
  mixed := by kernel_rfl
  f143 := Tryz.func101.trans (congrArg some (by kernel_rfl))
  f144 := Tryz.func82.trans (congrArg some (by kernel_rfl))
  f217 := Tryz.func115.trans (congrArg some (by kernel_rfl))
  f219 := Tryz.func111.trans (congrArg some (by kernel_rfl))
  f224 := Tryz.func119.trans (congrArg some (by kernel_rfl))
  f225 := Tryz.func118.trans (congrArg some (by kernel_rfl))
  f266 := Tryz.func133.trans (congrArg some (by kernel_rfl))
  f267 := Tryz.func120.trans (congrArg some (by kernel_rfl))
  f314 := Tryz.func136.trans (congrArg some (by kernel_rfl))
  t3 := Tryz.underlying3
  a3 := Tryz.isAgg3
  z3 := Tryz.sizeOf3
  v3 := Tryz.zeroValue3
  t4 := Tryz.underlying4
  a4 := Tryz.isAgg4
  z4 := Tryz.sizeOf4
  v4 := Tryz.zeroValue4
  t5 := Tryz.underlying5
  a5 := Tryz.isAgg5
  z5 := Tryz.sizeOf5
  v5 := Tryz.zeroValue5
  t9 := Tryz.underlying9
  a9 := Tryz.isAgg9
  z9 := Tryz.sizeOf9
  v9 := Tryz.zeroValue9
  t46 := Tryz.underlying109
  a46 := Tryz.isAgg109
  z46 := Tryz.sizeOf109
  v46 := Tryz.zeroValue109
  t51 := Tryz.underlying131
  a51 := Tryz.isAgg131
  z51 := Tryz.sizeOf131
  v51 := Tryz.zeroValue131
  t146 := Tryz.underlying135
  a146 := Tryz.isAgg135
  z146 := Tryz.sizeOf135
  v146 := Tryz.zeroValue135
  g1 := by kernel_rfl }
open Go.RowKit Go.Lib in
/-- strings.Contains: "Contains reports whether substr is within s.": IT RETURNS 'Lib.contains s substr'; the world is as it was. (LAID: no walk: one application.) -/
theorem Tryz.strings_Contains (s sub : ByteArray) (m : Int) (w : World) (hs : s.size < 4294967281) (hm : w.cell? ⟨0, 0, none⟩ = some (.int .i64 m)) :
    Calls Tryz.prog 82 #[.string s, .string sub] w fun e w' => e = .returned (.bool (Lib.contains s.data.toList sub.data.toList)) ∧ w' = w := Any.strings_Contains Tryz.lays144 s sub m w hs hm
def Tryz.lays190_ren : Go.Shelf.Ren := ⟨fun | 190 => 102 | 125 => 113 | 258 => 112 | 128 => 130 | 129 => 131 | 302 => 121 | 303 => 122 | 304 => 123 | 305 => 124 | 306 => 125 | 307 => 126 | 308 => 127 | 309 => 128 | 310 => 129 | 333 => 137 | 329 => 138 | 330 => 139 | 334 => 140 | 335 => 141 | 336 => 142 | 344 => 146 | n => n, fun | 31 => 29 | 9 => 9 | 3 => 3 | 46 => 109 | 0 => 0 | 51 => 131 | 53 => 89 | 4 => 4 | 183 => 124 | 182 => 123 | 131 => 128 | 5 => 5 | 218 => 137 | 222 => 141 | 228 => 146 | 229 => 147 | n => n, fun | n => n⟩
theorem Tryz.lays190 : Go.Proofs.Lays.n190 Tryz.prog Tryz.lays190_ren := {
  mixed := by kernel_rfl
  f125 := Tryz.func113.trans (congrArg some (by kernel_rfl))
  f128 := Tryz.func130.trans (congrArg some (by kernel_rfl))
  f129 := Tryz.func131.trans (congrArg some (by kernel_rfl))
  f190 := Tryz.func102.trans (congrArg some (by kernel_rfl))
  f258 := Tryz.func112.trans (congrArg some (by kernel_rfl))
  f302 := Tryz.func121.trans (congrArg some (by kernel_rfl))
  f303 := Tryz.func122.trans (congrArg some (by kernel_rfl))
  f304 := Tryz.func123.trans (congrArg some (by kernel_rfl))
  f305 := Tryz.func124.trans (congrArg some (by kernel_rfl))
  f306 := Tryz.func125.trans (congrArg some (by kernel_rfl))
  f307 := Tryz.func126.trans (congrArg some (by kernel_rfl))
  f308 := Tryz.func127.trans (congrArg some (by kernel_rfl))
  f309 := Tryz.func128.trans (congrArg some (by kernel_rfl))
  f310 := Tryz.func129.trans (congrArg some (by kernel_rfl))
  f329 := Tryz.func138.trans (congrArg some (by kernel_rfl))
  f330 := Tryz.func139.trans (congrArg some (by kernel_rfl))
  f333 := Tryz.func137.trans (congrArg some (by kernel_rfl))
  f334 := Tryz.func140.trans (congrArg some (by kernel_rfl))
  f335 := Tryz.func141.trans (congrArg some (by kernel_rfl))
  f336 := Tryz.func142.trans (congrArg some (by kernel_rfl))
  f344 := Tryz.func146.trans (congrArg some (by kernel_rfl))
  t0 := Tryz.underlying0
  a0 := Tryz.isAgg0
  z0 := Tryz.sizeOf0
  v0 := Tryz.zeroValue0
  t3 := Tryz.underlying3
  a3 := Tryz.isAgg3
  z3 := Tryz.sizeOf3
  v3 := Tryz.zeroValue3
  t4 := Tryz.underlying4
  a4 := Tryz.isAgg4
  z4 := Tryz.sizeOf4
  v4 := Tryz.zeroValue4
  t5 := Tryz.underlying5
  a5 := Tryz.isAgg5
  z5 := Tryz.sizeOf5
  v5 := Tryz.zeroValue5
  t9 := Tryz.underlying9
  a9 := Tryz.isAgg9
  z9 := Tryz.sizeOf9
  v9 := Tryz.zeroValue9
  t31 := Tryz.underlying29
  a31 := Tryz.isAgg29
  z31 := Tryz.sizeOf29
  v31 := Tryz.zeroValue29
  t46 := Tryz.underlying109
  a46 := Tryz.isAgg109
  z46 := Tryz.sizeOf109
  v46 := Tryz.zeroValue109
  t51 := Tryz.underlying131
  a51 := Tryz.isAgg131
  z51 := Tryz.sizeOf131
  v51 := Tryz.zeroValue131
  t53 := Tryz.underlying89
  a53 := Tryz.isAgg89
  z53 := Tryz.sizeOf89
  v53 := Tryz.zeroValue89
  t131 := Tryz.underlying128
  a131 := Tryz.isAgg128
  z131 := Tryz.sizeOf128
  v131 := Tryz.zeroValue128
  t182 := Tryz.underlying123
  a182 := Tryz.isAgg123
  z182 := Tryz.sizeOf123
  v182 := Tryz.zeroValue123
  t183 := Tryz.underlying124
  a183 := Tryz.isAgg124
  z183 := Tryz.sizeOf124
  v183 := Tryz.zeroValue124
  t218 := Tryz.underlying137
  a218 := Tryz.isAgg137
  z218 := Tryz.sizeOf137
  v218 := Tryz.zeroValue137
  t222 := Tryz.underlying141
  a222 := Tryz.isAgg141
  z222 := Tryz.sizeOf141
  v222 := Tryz.zeroValue141
  t228 := Tryz.underlying146
  a228 := Tryz.isAgg146
  z228 := Tryz.sizeOf146
  v228 := Tryz.zeroValue146
  t229 := Tryz.underlying147
  a229 := Tryz.isAgg147
  z229 := Tryz.sizeOf147
  v229 := Tryz.zeroValue147 }
open Go.Sort Go.RowKit in
theorem Tryz.slices_Sort_string (blk off cap : Nat) (ss : List (List UInt8)) (w : World) (hH : Holds encStr w blk off ss.toArray) (hblk : blk < w.heap.size) (hsz : ss.length < 4611686018427387904) :
    Calls Tryz.prog 102 #[.slice (some ⟨blk, off, none⟩) ss.length cap] w fun e w' =>
      e = .returned (.tuple #[]) ∧ ∃ n os, w' = grow (putRow encStr (Sort.ahead w n) blk off (ss.mergeSort fun x y => decide (x ≤ y)).toArray) os := Any.slices_Sort_string Tryz.lays190 blk off cap ss w hH hblk hsz
def Tryz.lays149_ren : Go.Shelf.Ren := ⟨fun | 149 => 110 | 222 => 117 | n => n, fun | 9 => 9 | 5 => 5 | 3 => 3 | 4 => 4 | n => n, fun | n => n⟩
theorem Tryz.lays149 : Go.Proofs.Lays.n149 Tryz.prog Tryz.lays149_ren := {
  mixed := by kernel_rfl
  f149 := Tryz.func110.trans (congrArg some (by kernel_rfl))
  f222 := Tryz.func117.trans (congrArg some (by kernel_rfl))
  t3 := Tryz.underlying3
  a3 := Tryz.isAgg3
  z3 := Tryz.sizeOf3
  v3 := Tryz.zeroValue3
  t4 := Tryz.underlying4
  a4 := Tryz.isAgg4
  z4 := Tryz.sizeOf4
  v4 := Tryz.zeroValue4
  t5 := Tryz.underlying5
  a5 := Tryz.isAgg5
  z5 := Tryz.sizeOf5
  v5 := Tryz.zeroValue5
  t9 := Tryz.underlying9
  a9 := Tryz.isAgg9
  z9 := Tryz.sizeOf9
  v9 := Tryz.zeroValue9 }
open Go.RowKit Go.Lib in
/-- strings.LastIndexByte: "LastIndexByte returns the index of the last instance of c in s, or -1 if c is not present in s." (LAID: no walk: one application.) -/
theorem Tryz.strings_LastIndexByte (s : ByteArray) (c : Int) (hs : s.size < 4611686018427387904) (w : World) :
    Calls Tryz.prog 110 #[.string s, .int .u8 c] w fun e w' => e = .returned (.int .i64 (Lib.lastIndexByte s c)) ∧ w' = w := Any.strings_LastIndexByte Tryz.lays149 s c hs w
def Tryz.lays146_ren : Go.Shelf.Ren := ⟨fun | 146 => 109 | 221 => 116 | 268 => 134 | 138 => 135 | 143 => 101 | 195 => 143 | 197 => 144 | 218 => 145 | 219 => 111 | 260 => 147 | 217 => 115 | 225 => 118 | 224 => 119 | 267 => 120 | 266 => 133 | 314 => 136 | n => n, fun | 9 => 9 | 31 => 29 | 3 => 3 | 4 => 4 | 0 => 0 | 105 => 144 | 21 => 21 | 5 => 5 | 46 => 109 | 119 => 149 | 139 => 152 | 138 => 151 | 146 => 135 | 51 => 131 | n => n, fun | 1 => 0 | 3 => 1 | 4 => 2 | n => n⟩
theorem Tryz.lays146 : Go.Proofs.Lays.n146 Tryz.prog Tryz.lays146_ren := {
  mixed := by kernel_rfl
  f138 := Tryz.func135.trans (congrArg some (by kernel_rfl))
  f143 := Tryz.func101.trans (congrArg some (by kernel_rfl))
  f146 := Tryz.func109.trans (congrArg some (by kernel_rfl))
  f195 := Tryz.func143.trans (congrArg some (by kernel_rfl))
  f197 := Tryz.func144.trans (congrArg some (by kernel_rfl))
  f217 := Tryz.func115.trans (congrArg some (by kernel_rfl))
  f218 := Tryz.func145.trans (congrArg some (by kernel_rfl))
  f219 := Tryz.func111.trans (congrArg some (by kernel_rfl))
  f221 := Tryz.func116.trans (congrArg some (by kernel_rfl))
  f224 := Tryz.func119.trans (congrArg some (by kernel_rfl))
  f225 := Tryz.func118.trans (congrArg some (by kernel_rfl))
  f260 := Tryz.func147.trans (congrArg some (by kernel_rfl))
  f266 := Tryz.func133.trans (congrArg some (by kernel_rfl))
  f267 := Tryz.func120.trans (congrArg some (by kernel_rfl))
  f268 := Tryz.func134.trans (congrArg some (by kernel_rfl))
  f314 := Tryz.func136.trans (congrArg some (by kernel_rfl))
  t0 := Tryz.underlying0
  a0 := Tryz.isAgg0
  z0 := Tryz.sizeOf0
  v0 := Tryz.zeroValue0
  t3 := Tryz.underlying3
  a3 := Tryz.isAgg3
  z3 := Tryz.sizeOf3
  v3 := Tryz.zeroValue3
  t4 := Tryz.underlying4
  a4 := Tryz.isAgg4
  z4 := Tryz.sizeOf4
  v4 := Tryz.zeroValue4
  t5 := Tryz.underlying5
  a5 := Tryz.isAgg5
  z5 := Tryz.sizeOf5
  v5 := Tryz.zeroValue5
  t9 := Tryz.underlying9
  a9 := Tryz.isAgg9
  z9 := Tryz.sizeOf9
  v9 := Tryz.zeroValue9
  t21 := Tryz.underlying21
  a21 := Tryz.isAgg21
  z21 := Tryz.sizeOf21
  v21 := Tryz.zeroValue21
  t31 := Tryz.underlying29
  a31 := Tryz.isAgg29
  z31 := Tryz.sizeOf29
  v31 := Tryz.zeroValue29
  t46 := Tryz.underlying109
  a46 := Tryz.isAgg109
  z46 := Tryz.sizeOf109
  v46 := Tryz.zeroValue109
  t51 := Tryz.underlying131
  a51 := Tryz.isAgg131
  z51 := Tryz.sizeOf131
  v51 := Tryz.zeroValue131
  t105 := Tryz.underlying144
  a105 := Tryz.isAgg144
  z105 := Tryz.sizeOf144
  v105 := Tryz.zeroValue144
  t119 := Tryz.underlying149
  a119 := Tryz.isAgg149
  z119 := Tryz.sizeOf149
  t138 := Tryz.underlying151
  a138 := Tryz.isAgg151
  z138 := Tryz.sizeOf151
  v138 := Tryz.zeroValue151
  t139 := Tryz.underlying152
  a139 := Tryz.isAgg152
  z139 := Tryz.sizeOf152
  v139 := Tryz.zeroValue152
  t146 := Tryz.underlying135
  a146 := Tryz.isAgg135
  z146 := Tryz.sizeOf135
  v146 := Tryz.zeroValue135
  g1 := by kernel_rfl
  g3 := by kernel_rfl
  g4 := by kernel_rfl }
open Go.RowKit Go.Lib in
/-- strings.Split. (LAID: no walk: one application.) -/
theorem Tryz.strings_Split (s sep : ByteArray) (m : Int) (w : World) (hs : s.size < 4294967281) (hm : w.cell? ⟨0, 0, none⟩ = some (.int .i64 m)) (h1 : 1 ≤ sep.size) :
    Calls Tryz.prog 109 #[.string s, .string sep] w fun e w' =>
      e = .returned (.slice (some ⟨w.heap.size, 0, none⟩) (Lib.countB s sep + 1) (Lib.countB s sep + 1)) ∧ w' = w.alloc (.cells ((Lib.splitB sep 0 (Lib.countB s sep) s).map Value.string).toArray 9) := Any.strings_Split Tryz.lays146 (by kernel_rfl) s sep m w hs hm h1
def Tryz.lays151_ren : Go.Shelf.Ren := ⟨fun | 151 => 107 | 152 => 114 | 137 => 108 | 119 => 132 | 224 => 119 | 225 => 118 | 217 => 115 | 266 => 133 | n => n, fun | 9 => 9 | 21 => 21 | 4 => 4 | 3 => 3 | 5 => 5 | 0 => 0 | 46 => 109 | n => n, fun | n => n⟩
theorem Tryz.lays151 : Go.Proofs.Lays.n151 Tryz.prog Tryz.lays151_ren := {
  mixed := by kernel_rfl
  f119 := Tryz.func132.trans (congrArg some (by kernel_rfl))
  f137 := Tryz.func108.trans (congrArg some (by kernel_rfl))
  f151 := Tryz.func107.trans (congrArg some (by kernel_rfl))
  f152 := Tryz.func114.trans (congrArg some (by kernel_rfl))
  f217 := Tryz.func115.trans (congrArg some (by kernel_rfl))
  f224 := Tryz.func119.trans (congrArg some (by kernel_rfl))
  f225 := Tryz.func118.trans (congrArg some (by kernel_rfl))
  f266 := Tryz.func133.trans (congrArg some (by kernel_rfl))
  t0 := Tryz.underlying0
  a0 := Tryz.isAgg0
  z0 := Tryz.sizeOf0
  v0 := Tryz.zeroValue0
  t3 := Tryz.underlying3
  a3 := Tryz.isAgg3
  z3 := Tryz.sizeOf3
  v3 := Tryz.zeroValue3
  t4 := Tryz.underlying4
  a4 := Tryz.isAgg4
  z4 := Tryz.sizeOf4
  v4 := Tryz.zeroValue4
  t5 := Tryz.underlying5
  a5 := Tryz.isAgg5
  z5 := Tryz.sizeOf5
  v5 := Tryz.zeroValue5
  t9 := Tryz.underlying9
  a9 := Tryz.isAgg9
  z9 := Tryz.sizeOf9
  v9 := Tryz.zeroValue9
  t21 := Tryz.underlying21
  a21 := Tryz.isAgg21
  z21 := Tryz.sizeOf21
  v21 := Tryz.zeroValue21
  t46 := Tryz.underlying109
  a46 := Tryz.isAgg109
  z46 := Tryz.sizeOf109
  v46 := Tryz.zeroValue109 }
open Go.RowKit Go.Lib in
theorem Tryz.strings_ContainsRune_ascii (s : ByteArray) (r : Int) (w : World) (h0 : 0 ≤ r) (h1 : r < 128) :
    Calls Tryz.prog 107 #[.string s, .int .i32 r] w fun e w' => e = .returned (.bool (decide (0 ≤ Lib.indexByte s.data.toList r.toNat.toUInt8))) ∧ w' = w := Any.strings_ContainsRune_ascii Tryz.lays151 s r w h0 h1
open Go.RowKit Go.Sort in
/-- .. and plain. (LAID: no walk: one application.) -/
theorem Tryz.slices_Sort_string_none (p : Option Addr) (cap : Nat) (w : World) :
    Calls Tryz.prog 102 #[.slice p 0 cap] w fun e w' => e = .returned (.tuple #[]) ∧ w' = w := Any.slices_Sort_string_none Tryz.lays190 p cap w
end Go.Proofs
end

section
set_option linter.unusedVariables false
set_option linter.unusedSimpArgs false
namespace Go.Proofs.YtikjbfjnbhaljaaGreatDoorM
open Go.RowKit Go.Proofs.YtikjbfjnbhaljaaGreatDoorW.PrintWords
structure EnvW (w : World) : Prop where mk :: (out : ∃ m, w.cell? ⟨0, 0, none⟩ = some (.int .i64 m))
theorem EnvW.below {w W : World} (h : EnvW w) (hb : Below w.heap.size w W) : EnvW W := ⟨h.out.elim fun m hm => ⟨m, pw_cell_below hb hm⟩⟩
theorem EnvW.drewN {w : World} (h : EnvW w) (n : Nat) : EnvW (w.drewN n) := ⟨h.out⟩
theorem EnvW.drew {w : World} (h : EnvW w) : EnvW w.drew := ⟨h.out⟩
theorem splitB_length (sep : ByteArray) (h1 : 1 ≤ sep.size) : ∀ (k : Nat) (s : ByteArray), Lib.countB s sep = k → (Lib.splitB sep 0 k s).length = k + 1 := by
  intro k
  induction k with
  | zero => exact fun s _ => rfl
  | succ k ih =>
    intro s h
    by_cases hi : Lib.indexB s sep = -1
    · rw [Lib.countB_miss s sep hi] at h
      cases h
    · obtain ⟨i, hi', _⟩ := (Lib.indexB_cases s sep).resolve_left hi
      rw [Lib.splitB_hit sep 0 k s i hi']
      rw [Lib.countB_hit s sep i h1 hi'] at h
      rw [List.length_cons, ih _ (by omega)]
theorem R_texts (W : World) (e : Nat) (l : List ByteArray) (n : Nat) (hn : l.length = n) (hm : n ≤ 9223372036854775807) :
    Kd.R Kd.string e (W.alloc (.cells (l.map Value.string).toArray e)) W.heap.size (fun _ => True) (.slice (some ⟨W.heap.size, 0, none⟩) n n) l := by
  subst hn
  have h := World.ownsRow_lit (base := W.heap.size) (e := e) (size := 1) W (l.map Value.string).toArray l.length (Nat.le_refl _) (by simpa [maxLen] using hm) (by simp)
  exact Kd.R_of_own (enc := Value.string) (h1 := fun _ => rfl) (by simpa [encs] using h) (fun _ _ => trivial)
theorem splitB_le (sep s : ByteArray) (h1 : 1 ≤ sep.size) (hs : s.size < 4294967281) : Lib.countB s sep + 1 ≤ 9223372036854775807 := by
  have := Lib.count_le s.data.toList sep.data.toList
  have h2 : s.data.toList.length = s.size := by rw [Array.length_toList]; rfl
  unfold Lib.countB
  omega
theorem bytesLess_turn : ∀ x y : List UInt8, (Op.bytesLess x y || x == y) = !(Op.bytesLess y x)
  | [], [] => by simp [Op.bytesLess]
  | _ :: _, [] => by simp [Op.bytesLess]
  | [], _ :: _ => by simp [Op.bytesLess]
  | a :: x, b :: y => by
    have ih := bytesLess_turn x y
    rw [Op.bytesLess, Op.bytesLess]
    rcases Nat.lt_trichotomy a.toNat b.toNat with h | h | h
    · have h1 : a < b := UInt8.lt_iff_toNat_lt.mpr h
      have h2 : ¬ b < a := fun h' => by have := UInt8.lt_iff_toNat_lt.mp h'; omega
      have h3 : (b == a) = false := by simp; intro h'; subst h'; omega
      simp [h1, h2, h3]
    · have h0 : a = b := UInt8.toNat_inj.mp h
      subst h0
      have h1 : ¬ a < a := fun h' => by have := UInt8.lt_iff_toNat_lt.mp h'; omega
      simp only [h1, decide_false, Bool.false_or, BEq.rfl, Bool.true_and, List.cons_beq_cons]
      exact ih
    · have h1 : b < a := UInt8.lt_iff_toNat_lt.mpr h
      have h2 : ¬ a < b := fun h' => by have := UInt8.lt_iff_toNat_lt.mp h'; omega
      have h3 : (a == b) = false := by simp; intro h'; subst h'; omega
      simp [h1, h2, h3]
theorem str_leq (t : TypeId) (a b : ByteArray) : binOp .leq t (.string a) (.string b) = pure (.bool !(Op.bytesLess b.toList a.toList)) := by
  rw [← bytesLess_turn]; simp [binOp, Op.stringOp]
theorem str_gtr (t : TypeId) (a b : ByteArray) : binOp .gtr t (.string a) (.string b) = pure (.bool (Op.bytesLess b.toList a.toList)) := by
  rw [show Op.bytesLess b.toList a.toList = !(!(Op.bytesLess b.toList a.toList)) by simp, ← bytesLess_turn]; simp [binOp, Op.stringOp]
theorem str_geq (t : TypeId) (a b : ByteArray) : binOp .geq t (.string a) (.string b) = pure (.bool !(Op.bytesLess a.toList b.toList)) := by simp [binOp, Op.stringOp]
attribute [go_sem high] str_leq str_gtr str_geq
theorem wrap64_mod256 (x : Int) : wrap64 (x % 256) = x % 256 := by
  have h0 := Int.emod_nonneg x (show (256 : Int) ≠ 0 by decide)
  have h1 := Int.emod_lt_of_pos x (show (0 : Int) < 256 by decide)
  unfold wrap64
  omega
attribute [go_sem high] wrap64_mod256
end Go.Proofs.YtikjbfjnbhaljaaGreatDoorM
end

section
set_option linter.unusedVariables false
set_option linter.unusedSimpArgs false
namespace Go.Proofs.YtikjbfjnbhaljaaGreatDoorM
open Go.RowKit Go.Proofs.YtikjbfjnbhaljaaGreatDoorW.PrintWords
def Kd.Z (d : Kd Int) (e : Nat) (W : World) (base : Nat) (ok : Nat → Prop) (v : Value) (xs : List Int) : Prop :=
  d.R e W base ok v xs ∨ ∃ g, v = .slice (some ⟨g, 0, none⟩) xs.length xs.length ∧ base ≤ g ∧ g < W.heap.size ∧ ok g ∧ ReadsInt W .u8 (some ⟨g, 0, none⟩) xs.length xs
section
variable {d : Kd Int} {e base : Nat} {W : World} {ok ok' : Nat → Prop} {v : Value} {xs : List Int}
theorem Kd.Z_of (h : d.R e W base ok v xs) : Kd.Z d e W base ok v xs := .inl h
theorem Kd.Z_mono (h : Kd.Z d e W base ok v xs) (hok : ∀ k, ok k → ok' k) : Kd.Z d e W base ok' v xs :=
  h.imp (fun h => Kd.R_mono h hok) (fun ⟨g, h1, h2, h3, h4, h5⟩ => ⟨g, h1, h2, h3, hok g h4, h5⟩)
theorem Kd.Z_ok (h : Kd.Z d e W base ok v xs) : ∀ k, v.ownBlock = some k → ok k := by
  rcases h with h | ⟨g, rfl, _, _, h4, _⟩
  · exact h.1
  · intro k hk
    simp only [Value.ownBlock, Option.some.injEq] at hk
    exact hk ▸ h4
theorem Kd.Z_lower {base' : Nat} (h : Kd.Z d e W base ok v xs) (hb : base' ≤ base) : Kd.Z d e W base' ok v xs :=
  h.imp (fun h => Kd.R_lower h hb) (fun ⟨g, h1, h2, h3, h4, h5⟩ => ⟨g, h1, Nat.le_trans hb h2, h3, h4, h5⟩)
theorem Kd.Z_slice (h : Kd.Z d e W base ok v xs) : ∃ A c, v = .slice A xs.length c := by
  rcases h with h | ⟨g, rfl, _⟩
  · exact Kd.R_slice h
  · exact ⟨_, _, rfl⟩
theorem Kd.Z_tight (hE : d.E = []) (h : Kd.Z d e W base ok v xs) : Kd.Z d e W base (fun k => some k = v.ownBlock) v xs := by
  rcases h with h | ⟨g, rfl, h2, h3, h4, h5⟩
  · exact .inl (Kd.R_tight hE h)
  · exact .inr ⟨g, rfl, h2, h3, rfl, h5⟩
end
section
variable {P : Program} {ops : Array Oper} {rest : List Oper} {o o2 : Oper} {a : Act} {Q : Exit → Act → World → Prop}
theorem Kd.Z_append (d : Kd Int) {w0 W : World} (base : Nat) (hgd : o.guard = none) (s x : Operand) (t e : TypeId) (z : Value) (bytes : Nat)
    (ho : o.op = .call { callee := .builtin .append, args := #[s, x], argTypes := #[t, t] })
    (ht : P.underlying t = some (.slice e)) (hinfo : (P.info? e).map (fun i => (i.zero, i.size, i.bytes)) = some (some z, d.sz, bytes)) (hz : z.cells.size = d.sz) (hs0 : 0 < d.sz) (hb0 : 0 < bytes)
    (v : Value) (xs : List Int) (p : Int) (cs : List Value) (ok okp : Nat → Prop) (hs : a.eval s = v) (hx : a.eval x = .slice (some ⟨W.heap.size, 0, none⟩) 1 1) (hp : d.M W base okp p cs) (hokp : ∀ k, okp k → ok k ∧ some k ≠ v.ownBlock) (hfresh : ∀ k, W.heap.size ≤ k → ok k)
    (HO : Kd.Z d e W base ok v xs) (HB : Below base w0 W) (hbase : base ≤ W.heap.size) (hl : (xs.length + 1) * bytes ≤ 140737488355328) (hd : d = Kd.int .u8)
    (h : ∀ v1 w1, d.R e w1 base ok v1 (xs ++ [p]) → Below base w0 w1 → W.grownBy w1 v.ownBlock → (v1.ownBlock = v.ownBlock ∨ ∃ b, v1.ownBlock = some b ∧ W.heap.size ≤ b) → wpList P ops Q rest (a.put o.dst v1) w1) :
    wpList P ops Q (o :: rest) a (W.alloc (.cells cs.toArray e)) := by
  rcases HO with HO | ⟨g, rfl, hbg, hgl, hokg, hr⟩
  · exact Kd.R_append d base hgd s x t e z bytes ho ht hinfo hz hs0 hb0 v xs p cs ok okp hs hx hp hokp hfresh HO HB hbase hl h
  subst hd
  obtain rfl : cs = [.int .u8 p] := hp
  obtain ⟨i0, hi, hzz⟩ := Option.map_eq_some_iff.1 hinfo
  simp only [Prod.mk.injEq] at hzz
  obtain ⟨hz0, hz1, hz2⟩ := hzz
  have hsz : (Kd.int .u8).sz = 1 := rfl
  rw [hsz] at hz1 hz
  have hlen : xs.length + 1 ≤ 140737488355328 := Nat.le_trans (Nat.le_mul_of_pos_right _ hb0) hl
  have hn : (nums .u8 xs).length = xs.length := by simp [nums]
  have hold : ∀ j u, (nums .u8 xs)[j]? = some u → (W.alloc (.cells #[.int .u8 p] e)).cell? ((⟨g, 0, none⟩ : Addr).add j) = some u := by
    intro j u hu
    obtain ⟨hj, hu2⟩ := List.getElem?_eq_some_iff.1 hu
    have hj' : j < xs.length := by omega
    obtain ⟨ad, e1, hc⟩ := (hr.below (below_alloc (Below.refl _ _) (.cells #[.int .u8 p] e))).2.2 (by omega)
    cases e1
    rw [hc j hj', ← hu2]
    simp [nums, List.getD_eq_getElem?_getD, List.getElem?_eq_getElem hj']
  have hnew : ∀ j u, ([.int .u8 p] : List Value)[j]? = some u → (W.alloc (.cells #[.int .u8 p] e)).cell? ((⟨W.heap.size, 0, none⟩ : Addr).add j) = some u := by
    simpa using World.news_of_block (cs := #[Value.int .u8 p]) (t := e) (fr := (0, 0)) (heap_alloc_new W (.cells #[.int .u8 p] e))
  have hrun := run_append_grow (P := P) (W.alloc (.cells #[.int .u8 p] e)) t o.type e i0 z ht hi hz0 ⟨g, 0, none⟩ xs.length xs.length (nums .u8 xs) (by rw [hn, hz1, Nat.mul_one]) hold ⟨W.heap.size, 0, none⟩ 1 1 [.int .u8 p] (by simp [hz1]) hnew (by omega) (by omega)
    (by rw [hz2]; exact growslice_fits (by omega) hl)
  have hge := grownCap_ge (W.alloc (.cells #[.int .u8 p] e)) (xs.length + 1) xs.length e
  have hcm : grownCap (W.alloc (.cells #[.int .u8 p] e)) (xs.length + 1) xs.length e ≤ maxLen := grownCap_le_maxLen _ _ _ _ (by simp only [maxLen]; omega)
  have hW : (W.alloc (.cells #[.int .u8 p] e)).heap.size = W.heap.size + 1 := by simp
  have hown : ((W.alloc (.cells #[.int .u8 p] e)).drew.alloc (.cells ((nums .u8 xs).toArray ++ [Value.int .u8 p].toArray ++ Builtin.zeroCells z.cells (grownCap (W.alloc (.cells #[.int .u8 p] e)) (xs.length + 1) xs.length e - (xs.length + 1))) e)).ownsRow base e 1
      (.slice (some ⟨(W.alloc (.cells #[.int .u8 p] e)).heap.size, 0, none⟩) (xs.length + 1) (grownCap (W.alloc (.cells #[.int .u8 p] e)) (xs.length + 1) xs.length e)) (xs.length + 1) (nums .u8 (xs ++ [p])) := by
    have e2 : nums .u8 (xs ++ [p]) = nums .u8 xs ++ [.int .u8 p] := by simp [nums]
    refine ⟨by simp [nums], .inr ⟨_, _, _, rfl, by rw [hW]; omega, heap_alloc_new _ _, hge, hcm, ?_, ?_⟩⟩
    · simp only [Array.size_append, List.size_toArray, size_zeroCells, hz, hn, List.length_cons, List.length_nil]
      omega
    · rw [e2]
      simp only [Array.toList_append, Nat.mul_one]
      rw [show xs.length + 1 = (nums .u8 xs ++ [Value.int .u8 p]).length by simp [hn]]
      exact List.take_left
  obtain ⟨v1, hv1⟩ : ∃ v1, v1 = Value.slice (some ⟨(W.alloc (.cells #[.int .u8 p] e)).heap.size, 0, none⟩) (xs.length + 1) (grownCap (W.alloc (.cells #[.int .u8 p] e)) (xs.length + 1) xs.length e) := ⟨_, rfl⟩
  obtain ⟨w1, hw1⟩ : ∃ w1, w1 = (W.alloc (.cells #[.int .u8 p] e)).drew.alloc (.cells ((nums .u8 xs).toArray ++ [Value.int .u8 p].toArray ++ Builtin.zeroCells z.cells (grownCap (W.alloc (.cells #[.int .u8 p] e)) (xs.length + 1) xs.length e - (xs.length + 1))) e) := ⟨_, rfl⟩
  have hrun' : (Builtin.append_ #[t, t] o.type #[.slice (some ⟨g, 0, none⟩) xs.length xs.length, .slice (some ⟨W.heap.size, 0, none⟩) 1 1]).run P (W.alloc (.cells #[.int .u8 p] e)) = .ok v1 w1 := by rw [hv1, hw1]; exact hrun
  have hown' : w1.ownsRow base e 1 v1 (xs.length + 1) (nums .u8 (xs ++ [p])) := by rw [hv1, hw1]; exact hown
  have hob : v1.ownBlock = some (W.heap.size + 1) := by rw [hv1]; simp [Value.ownBlock]
  have hsz1 : w1.heap.size = W.heap.size + 2 := by rw [hw1]; simp
  have hw1o : ∀ k, k < W.heap.size + 1 → w1.heap[k]? = (W.alloc (.cells #[.int .u8 p] e)).heap[k]? := fun k hk => by
    rw [hw1]
    exact heap_alloc_old (W.alloc (.cells #[.int .u8 p] e)).drew _ (by show k < (W.alloc (.cells #[.int .u8 p] e)).heap.size; omega)
  have hgr : (W.alloc (.cells #[.int .u8 p] e)).grownBy w1 (Value.ownBlock (.slice (some ⟨g, 0, none⟩) xs.length xs.length)) := by
    refine ⟨by rw [hw1]; rfl, by rw [hw1]; rfl, by rw [hw1]; rfl, by omega, fun k hk _ => hw1o k (by omega)⟩
  refine Kd.event_run hgd (v := v1) (w1 := w1) ?_ (h v1 w1 ?_ ?_ ?_ ?_)
  · unfold execOp
    simp only [ho, resolve, invoke, builtin, Sem.run_bind, Sem.run_pure, Result.andThen_ok, List.map_toArray, List.map_cons, List.map_nil, hs, hx]
    show ((Builtin.append_ #[t, t] o.type #[.slice (some ⟨g, 0, none⟩) xs.length xs.length, .slice (some ⟨W.heap.size, 0, none⟩) 1 1]).run P (W.alloc (.cells #[.int .u8 p] e))).andThen _ = _
    rw [hrun']
    rfl
  · have hl3 : (xs ++ [p]).length = xs.length + 1 := by simp
    refine Kd.R_of_own (enc := Value.int .u8) (h1 := fun _ => rfl) ?_ (fun k hk => hfresh k ?_)
    · rw [hl3]
      exact hown'
    · rw [hob] at hk
      injection hk with hk
      omega
  · exact (HB.alloc hbase _).grown hgr (by omega) (fun q hq => by simp only [Value.ownBlock, Option.some.injEq] at hq; omega)
  · exact World.grownBy.trans (World.grownBy_alloc W _ _) hgr
  · exact .inr ⟨_, hob, by omega⟩
theorem Kd.Z_litc (d : Kd Int) {w0 W : World} (base e : Nat) (hgd : o.guard = none) {N : Tmp} (hdN : o.dst = some N) {xs : List Int} {inner : List Value} {ok okp : Nat → Prop}
    (hrun : (execOp a.eval o).run P W = .ok (.value (.slice (some ⟨W.heap.size, 0, none⟩) xs.length xs.length)) (W.alloc (.cells inner.toArray e)))
    (hrep : Reps (d.M W base okp) d.sz xs inner) (hok : ∀ k, okp k → ok k) (hfresh : ok W.heap.size) (HB : Below base w0 W) (hbase : base ≤ W.heap.size) (hm : xs.length ≤ 9223372036854775807)
    (hd : d = Kd.int .u8) (hg2 : o2.guard = none) (t : TypeId) (ho2 : o2.op = .convert t t (.tmp N)) (ht : P.underlying t = some (.slice e)) (he : P.underlying e = some (.int .u8)) (hev : ∀ u, (a.put o.dst u).eval (.tmp N) = u)
    (h : ∀ v1 w1, Kd.Z d e w1 base ok v1 xs → Below base w0 w1 → W.grownBy w1 none → (∃ b, v1.ownBlock = some b ∧ W.heap.size ≤ b) → wpList P ops Q rest ((a.put o.dst v1).put o2.dst v1) w1) : wpList P ops Q (o :: o2 :: rest) a W := by
  subst hd
  refine Kd.event_run hgd hrun ?_
  have hsh : (W.alloc (.cells inner.toArray e)).shape? W.heap.size = some (e, inner.toArray.size) := by
    have : (W.alloc (.cells inner.toArray e)).heap[W.heap.size]? = some (.cells inner.toArray e) := by
      show (W.heap.push (.cells inner.toArray e))[W.heap.size]? = _
      simp
    unfold World.shape?
    rw [this]
  have hfr : ∀ n, (W.alloc (.cells inner.toArray e)).freeze ⟨W.heap.size, n, none⟩ 1 = W.alloc (.cells inner.toArray e (n, n + 1)) := fun n => by
    have hm : ∀ (a : Array Obj) (x : Obj) (f : Obj → Obj), (a.push x).modify a.size f = a.push (f x) := by
      intro a x f
      apply Array.ext
      · simp
      · intro i h1 h2
        simp only [Array.getElem_modify, Array.getElem_push]
        by_cases h : a.size = i
        · subst h
          simp
        · have hi : i < a.size := by simp at h1; omega
          simp [h, hi]
    unfold World.freeze
    rw [if_neg (by decide)]
    show ({ W.alloc (.cells inner.toArray e) with heap := (W.heap.push (.cells inner.toArray e)).modify W.heap.size _ } : World) = _
    rw [hm]
    rfl
  refine Kd.event_run (v := .slice (some ⟨W.heap.size, 0, none⟩) xs.length xs.length) (w1 := W.alloc (.cells inner.toArray e (inner.toArray.size, inner.toArray.size + 1))) hg2 ?_ (h _ _ (.inr ⟨_, rfl, hbase, by simp, hfresh, ?_⟩) (HB.alloc hbase _) (World.grownBy_alloc W _ none) ⟨W.heap.size, by simp [Value.ownBlock], Nat.le_refl _⟩)
  · simp [execOp, ho2, hev, convert, run_underlying ht, run_underlying he, markStringish, hsh, Result.andThen]
    exact (hfr _)
  · have hi : inner = nums .u8 xs := by
      apply List.ext_getElem?
      intro j
      rcases Nat.lt_or_ge j xs.length with hj | hj
      · have h2 := hrep.2 j _ (List.getElem?_eq_getElem hj)
        have h3 : (inner.drop (j * 1)).take 1 = [.int .u8 xs[j]] := h2
        have hl : j < inner.length := by have := hrep.1; simp [show (Kd.int .u8).sz = 1 from rfl] at this; omega
        rw [Nat.mul_one, List.drop_eq_getElem_cons hl, List.take_succ_cons] at h3
        have h5 := (List.cons.inj h3).1
        simp [nums, List.getElem?_eq_getElem hl, List.getElem?_eq_getElem hj, h5]
      · have h3 : inner.length = xs.length := by have := hrep.1; simp [show (Kd.int .u8).sz = 1 from rfl] at this; omega
        rw [List.getElem?_eq_none (by omega), List.getElem?_eq_none (by simp [nums]; omega)]
    refine ⟨rfl, hm, fun hn => ⟨_, rfl, fun j hj => ?_⟩⟩
    rw [add_plain, cell_of_row _ W.heap.size j inner.toArray e _ (heap_alloc_new W _)]
    rw [hi]
    simp [nums, List.getD_eq_getElem?_getD, List.getElem?_eq_getElem hj, hj]
end
end Go.Proofs.YtikjbfjnbhaljaaGreatDoorM
end

section
set_option linter.unusedVariables false
set_option linter.unusedSimpArgs false
namespace Go.Proofs.YtikjbfjnbhaljaaGreatDoorM
open Go.RowKit Go.Maps Go.Proofs.YtikjbfjnbhaljaaGreatDoorW.PrintWords
def keysStep (acc : List (List UInt8)) (b : List UInt8) : List (List UInt8) := if b ∈ acc then acc else acc ++ [b]
def keysD {α : Type} (m : List (ByteArray × α)) : List (List UInt8) := m.foldl (fun acc p => keysStep acc p.1.data.toList) []
theorem keysStep_nodup {acc : List (List UInt8)} (h : acc.Nodup) (b : List UInt8) : (keysStep acc b).Nodup := by
  unfold keysStep
  split
  · exact h
  · rename_i hb
    exact List.nodup_append.2 ⟨h, by simp, fun a ha c hc => by simp at hc; subst hc; exact fun e => hb (e ▸ ha)⟩
theorem mem_keysStep {acc : List (List UInt8)} {b x : List UInt8} : x ∈ keysStep acc b ↔ x ∈ acc ∨ x = b := by
  unfold keysStep
  split
  · rename_i hb
    exact ⟨.inl, fun h => h.elim id fun e => e ▸ hb⟩
  · simp
theorem keysD_fold {α : Type} (m : List (ByteArray × α)) : ∀ acc : List (List UInt8), acc.Nodup →
    (m.foldl (fun acc p => keysStep acc p.1.data.toList) acc).Nodup ∧ ∀ x, x ∈ m.foldl (fun acc p => keysStep acc p.1.data.toList) acc ↔ x ∈ acc ∨ ∃ p ∈ m, p.1.data.toList = x := by
  induction m with
  | nil => exact fun acc h => ⟨h, fun x => by simp⟩
  | cons p m ih =>
    intro acc h
    obtain ⟨h1, h2⟩ := ih _ (keysStep_nodup h p.1.data.toList)
    refine ⟨h1, fun x => ?_⟩
    rw [List.foldl_cons, h2 x, mem_keysStep]
    constructor
    · rintro ((h | h) | ⟨q, hq, h⟩)
      · exact .inl h
      · exact .inr ⟨p, List.mem_cons_self, h.symm⟩
      · exact .inr ⟨q, List.mem_cons_of_mem _ hq, h⟩
    · rintro (h | ⟨q, hq, h⟩)
      · exact .inl (.inl h)
      · rcases List.mem_cons.1 hq with e | e
        · exact .inl (.inr (by rw [← h, e]))
        · exact .inr ⟨q, e, h⟩
theorem keysD_nodup {α : Type} (m : List (ByteArray × α)) : (keysD m).Nodup := (keysD_fold m [] List.nodup_nil).1
theorem mem_keysD {α : Type} (m : List (ByteArray × α)) (x : List UInt8) : x ∈ keysD m ↔ ∃ p ∈ m, p.1.data.toList = x := by
  rw [show keysD m = m.foldl (fun acc p => keysStep acc p.1.data.toList) [] from rfl, (keysD_fold m [] List.nodup_nil).2 x]
  simp
def skeys {α : Type} (m : List (ByteArray × α)) : List ByteArray := ((keysD m).mergeSort leB).map fun l => ⟨l.toArray⟩
theorem mem_skeys {α : Type} (m : List (ByteArray × α)) (s : ByteArray) : s ∈ skeys m ↔ ∃ p ∈ m, p.1 = s := by
  unfold skeys
  rw [List.mem_map]
  constructor
  · rintro ⟨l, hl, rfl⟩
    obtain ⟨p, hp, e⟩ := (mem_keysD m l).1 ((List.mergeSort_perm _ _).mem_iff.1 hl)
    exact ⟨p, hp, by rw [← e]⟩
  · rintro ⟨p, hp, rfl⟩
    exact ⟨p.1.data.toList, (List.mergeSort_perm _ _).mem_iff.2 ((mem_keysD m _).2 ⟨p, hp, rfl⟩), rfl⟩
theorem pairwise_skeys {α : Type} (m : List (ByteArray × α)) : (skeys m).Pairwise fun a b => a.data.toList < b.data.toList := by
  unfold skeys
  refine List.pairwise_map.2 ?_
  have tr : ∀ a b c : List UInt8, leB a b = true → leB b c = true → leB a c = true := fun a b c h1 h2 => by simp only [leB, decide_eq_true_eq] at *; exact List.le_trans h1 h2
  have tot : ∀ a b : List UInt8, (leB a b || leB b a) = true := fun a b => by simp only [leB, Bool.or_eq_true, decide_eq_true_eq]; exact List.le_total a b
  have h1 := List.pairwise_mergeSort tr tot (keysD m)
  have h2 : ((keysD m).mergeSort leB).Nodup := (List.mergeSort_perm _ _).nodup_iff.2 (keysD_nodup m)
  refine (h1.and h2).imp fun {a b} h => ?_
  simp only [leB, decide_eq_true_eq] at h
  rcases List.le_total a b with _ | _ <;> exact Decidable.byContradiction fun hn => h.2 (List.le_antisymm h.1 (List.not_lt.1 hn))
theorem collected_keys {P : Program} {k : TypeId} {α : Type} {hk : P.underlying k = some .string} {Y : EK α} {m : List (ByteArray × α)} {left : Lit → Bool} {ss : List (List UInt8)}
    (hC : Collected (den (kkStr P k hk) Y m) left ss) (hl : ∀ kl, left kl = false) : ss.Perm (keysD m) := by
  refine (List.perm_ext_iff_of_nodup hC.1 (keysD_nodup m)).2 fun x => ?_
  rw [hC.2 x, hl, mem_keysD]
  have h := den_has (kkStr P k hk) Y ⟨x.toArray⟩ m
  have h1 : (kkStr P k hk).lit ⟨x.toArray⟩ = .string x := by simp [kkStr]
  rw [h1] at h
  rw [h, mhas, List.any_eq_true]
  constructor
  · rintro ⟨⟨p, hp, e⟩, _⟩
    have e := of_decide_eq_true e
    exact ⟨p, hp, by rw [e]⟩
  · rintro ⟨p, hp, e⟩
    exact ⟨⟨p, hp, decide_eq_true (by rw [← e])⟩, rfl⟩
theorem skeys_of_perm {α : Type} {m : List (ByteArray × α)} {ss : List (List UInt8)} (h : ss.Perm (keysD m)) : (ss.mergeSort fun x y => decide (x ≤ y)).map (fun l => (⟨l.toArray⟩ : ByteArray)) = skeys m := by
  unfold skeys
  rw [← mergeSort_of_perm h]
theorem ekI64_shape {v : Value} {y : DataW Unit × List MemPlace} (h : ekI64.R v = some y) : ∃ c, v = .int .i64 c := by
  unfold ekI64 at h
  dsimp only at h
  split at h
  · exact ⟨_, rfl⟩
  · cases h
theorem encs_strs (ts : List (List UInt8)) : ts.map Go.Proofs.encStr = (ts.map fun l => (⟨l.toArray⟩ : ByteArray)).map Value.string := by
  rw [List.map_map]
  rfl
theorem R_texts_own {w : World} {e base n : Nat} {v : Value} {l : List ByteArray} (h : w.ownsRow base e 1 v n (l.map Value.string)) : Kd.R Kd.string e w base (fun _ => True) v l := by
  have hn : n = l.length := by have h1 := h.1; rw [List.length_map] at h1; omega
  subst hn
  exact Kd.R_of_own (enc := Value.string) (h1 := fun _ => rfl) (by simpa [encs] using h) (fun _ _ => trivial)
end Go.Proofs.YtikjbfjnbhaljaaGreatDoorM
end

section
set_option linter.unusedVariables false
set_option linter.unusedSimpArgs false
namespace Go.Proofs.YtikjbfjnbhaljaaGreatDoorM
open Go.RowKit Go.Maps Go.Proofs.YtikjbfjnbhaljaaGreatDoorW.PrintWords
end Go.Proofs.YtikjbfjnbhaljaaGreatDoorM
end
