/- Texts of Rea, put together by program. -/
import Derived.ChangeArms
import Derived.DataReads
import Derived.DataElems
import Derived.WideShapes
import Derived.Test.YthfohhpjanoimaaDoorMRea1
import Derived.Shelf.Strings.Builder1
import Derived.Shelf.Strings.Builder2
import Derived.Shelf.Strings.OnBuilder
import Derived.Shelf.Small.Strs
import Derived.Shelf.Utf8.RuneCount
import Derived.Shelf.Strconv.Itoa0
import Derived.Shelf.Strconv.Itoa1
import Derived.Shelf.LaysM
import Derived.Shelf.Strconv.Itoa2
import Derived.Shelf.Strconv.Itoa3
import Derived.Shelf.Strconv.ParseIntEmpty
import Derived.Shelf.Strconv.Clone
import Derived.Shelf.Strconv.SyntaxError
import Derived.Shelf.LaysC
import Derived.Shelf.Strconv.ToError
import Derived.Shelf.Strconv.Lower
import Derived.Shelf.Strconv.ParseUint10
import Derived.Shelf.Strconv.ParseUint10Empty
import Derived.Shelf.Strconv.ParseUint10Any
import Derived.Shelf.Strconv.ParseInt10
import Derived.Shelf.Strconv.RangeError
import Derived.Shelf.Strconv.ToErrorRange
import Derived.Shelf.Strconv.ParseUintEmpty
import Derived.Shelf.Strconv.ParseUint10b64
import Derived.Shelf.Strconv.ParseUint10b32
import Derived.Shelf.Strconv.ParseUint10b16
import Derived.Shelf.Strconv.ParseUint10b8
import Derived.Shelf.Strconv.ParseUint10At
import Derived.Shelf.Strconv.ParseInt10At64
import Derived.Shelf.Strconv.ParseInt10At32
import Derived.Shelf.Strconv.ParseInt10At16
import Derived.Shelf.Strconv.ParseInt10At8
import Derived.Shelf.Strconv.ParseInt10All
import Derived.Shelf.Strconv.ParseIntPublic10
import Derived.Shelf.Strings.Search1
import Derived.Shelf.Strings.Search2
import Derived.Shelf.Strings.Search3
import Derived.Shelf.Strings.Count
import Derived.Shelf.Strings.Shaped
import Derived.Shelf.Strings.Prefix
import Derived.Shelf.Strings.Split
import Derived.Shelf.Strings.SplitShaped
import Derived.Shelf.Unicode.Decode
import Derived.Shelf.Strings.RuneCount
import Derived.Shelf.Strings.Explode
import Derived.Shelf.Unicode.DecodeSlow
import Derived.Shelf.Unicode.DecodeAny
import Derived.Test.YthfohhpjanoimaaDoorProg
import Derived.Lib.Split
import Derived.Laws.ByValue
import Derived.Lib.SliceRun
import Derived.Lib.Replace
import Derived.Lib.LastIndexByte
import Derived.Lib.CutLaws
import Derived.Laws.IdiomStrings
import Derived.Maps.OwnSet
import Derived.Maps.OwnOps
import Derived.StringKeys

section
set_option linter.unusedVariables false
set_option linter.unusedSimpArgs false
namespace Go.Proofs.YthfohhpjanoimaaDoorM
open Go.RowKit Go.Proofs.YthfohhpjanoimaaDoorW.PrintWords
def Opn {α : Type} (P : Program) (w : World) (t : TypeId) (d : Kd α) (g : α → Prop) : Prop :=
  ∀ (H : Type) (enc : TypeId × Value → H) (base : Nat) (spare : Nat → Bool) (held : Bool) (fuel : Nat) (cs : List Value) (x : DataW H × List MemPlace), DataW.trod enc P w base spare held fuel t cs = some x → ∃ a, d.K w a cs ∧ g a
def OpnF {α : Type} (P : Program) (w : World) (fs : Array Field) (size i off : Nat) (d : Kd α) (g : α → Prop) : Prop :=
  ∀ (H : Type) (enc : TypeId × Value → H) (base : Nat) (spare : Nat → Bool) (held : Bool) (n : Nat) (cs : List Value) (xs : List (DataW H × List MemPlace)), cs.length = size → xs.length = fs.size →
    (∀ (i : Nat) (f : Field), fs[i]? = some f → DataW.trod enc P w base spare held n f.type ((cs.drop f.offset).take (P.cellsOf f.type)) = xs[i]?) → ∃ a, d.K w a (cs.drop off) ∧ g a
section
variable {P : Program} {w : World} {t : TypeId}
theorem Opn.bool (ht : P.underlying t = some .bool) : Opn P w t Kd.bool (fun _ => True) := by
  intro H enc base spare held fuel cs x h
  obtain ⟨b, rfl, _⟩ := DataW.trod_bool ht h
  exact ⟨b, rfl, trivial⟩
theorem Opn.int {k : IntKind} (ht : P.underlying t = some (.int k)) : Opn P w t (Kd.int k) (fun n => (Lit.int k n).wf = true) := by
  intro H enc base spare held fuel cs x h
  obtain ⟨n, rfl, _, hw⟩ := DataW.trod_int ht h
  exact ⟨n, rfl, hw⟩
theorem Opn.string (ht : P.underlying t = some .string) : Opn P w t Kd.string (fun s => s.size ≤ maxLen) := by
  intro H enc base spare held fuel cs x h
  obtain ⟨s, rfl, _, hw⟩ := DataW.trod_string ht h
  exact ⟨s, rfl, hw⟩
theorem Opn.iso {α β : Type} {d : Kd α} {g : α → Prop} (f : β → α) (fi : α → β) (hf : ∀ a, f (fi a) = a) (h : Opn P w t d g) : Opn P w t (Kd.iso d f) (fun b => g (f b)) := by
  intro H enc base spare held fuel cs x hx
  obtain ⟨a, ha, hg⟩ := h H enc base spare held fuel cs x hx
  refine ⟨fi a, ?_, ?_⟩
  · show d.K w (f (fi a)) cs
    rw [hf]; exact ha
  · show g (f (fi a))
    rw [hf]; exact hg
theorem OpnF.cons {α β : Type} {d1 : Kd α} {d2 : Kd β} {g1 : α → Prop} {g2 : β → Prop} {fs : Array Field} {size i off off' : Nat} (f : Field) (hf : fs[i]? = some f) (ho : f.offset = off) (hs : off + P.cellsOf f.type = off') (h : Opn P w f.type d1 g1)
    (hr : OpnF P w fs size (i + 1) off' d2 g2) : OpnF P w fs size i off (Kd.pair d1 d2) (fun x => g1 x.1 ∧ g2 x.2) := by
  intro H enc base spare held n cs xs hc hx he
  have h1 := he i f hf
  have hi : i < xs.length := by
    rw [hx]
    exact (Array.getElem?_eq_some_iff.1 hf).1
  rw [List.getElem?_eq_getElem hi, ho] at h1
  obtain ⟨a, ha, hga⟩ := h H enc base spare held n _ _ h1
  obtain ⟨b, hb, hgb⟩ := hr H enc base spare held n cs xs hc hx he
  refine ⟨(a, b), ⟨_, _, ?_, ha, hb⟩, hga, hgb⟩
  rw [← hs, ← List.drop_drop, List.take_append_drop]
theorem Opn.struct {α : Type} {d : Kd α} {g : α → Prop} {fs : Array Field} (ht : P.underlying t = some (.struct fs)) (h : OpnF P w fs (P.cellsOf t) 0 0 d g) : Opn P w t d g := by
  intro H enc base spare held fuel cs x hx
  obtain ⟨xs, n, rfl, rfl, hc, hl, he⟩ := DataW.trod_struct ht hx
  exact h H enc base spare held n cs xs hc hl he
theorem choose_list {α : Type} {p : Nat → α → Prop} : ∀ n, (∀ i, i < n → ∃ a, p i a) → ∃ l : List α, l.length = n ∧ ∀ i a, l[i]? = some a → p i a
  | 0, _ => ⟨[], rfl, fun i a h => by simp at h⟩
  | n + 1, h => by
    obtain ⟨l, hl, hp⟩ := choose_list n (fun i hi => h i (by omega))
    obtain ⟨a, ha⟩ := h n (by omega)
    refine ⟨l ++ [a], by simp [hl], fun i b hb => ?_⟩
    rcases Nat.lt_or_ge i n with h1 | h1
    · rw [List.getElem?_append_left (by omega)] at hb
      exact hp i b hb
    · have h2 := (List.getElem?_eq_some_iff.1 hb).1
      simp only [List.length_append, List.length_cons, List.length_nil] at h2
      obtain rfl : i = n := by omega
      rw [List.getElem?_append_right (by omega), hl, Nat.sub_self] at hb
      simp at hb
      subst hb
      exact ha
theorem Opn.slice {α : Type} {d : Kd α} {g : α → Prop} {e : TypeId} (ht : P.underlying t = some (.slice e)) (hz : P.cellsOf e = d.sz) (h : Opn P w e d g) : Opn P w t (Kd.slice e d) (fun l => l.length ≤ maxLen ∧ ∀ a ∈ l, g a) := by
  intro H enc base spare held fuel cs x hx
  rcases DataW.trod_slice ht hx with ⟨rfl, rfl⟩ | ⟨a, len, cap, elems, rest, n, _, rfl, rfl, hb, hl, hm, hlen, hel, _, _⟩
  · exact ⟨[], ⟨none, 0, rfl, Nat.le_refl _, rfl, by simp, fun h0 => absurd h0 (Nat.lt_irrefl 0)⟩, by simp, fun a ha => by cases ha⟩
  · obtain ⟨l, hll, hp⟩ := choose_list (p := fun i v => (∃ c, c.length = d.sz ∧ d.K w v c ∧ ∀ j u, c[j]? = some u → w.cell? (a.add (i * d.sz + j)) = some u) ∧ g v) len (fun i hi => by
      have h1 := hel i hi
      rw [List.getElem?_eq_getElem (by omega), Option.bind_eq_some_iff] at h1
      obtain ⟨c, hc, h2⟩ := h1
      obtain ⟨v, hv, hg⟩ := h H enc base spare held n c _ h2
      obtain ⟨_, hcl, hcell⟩ := World.cells?_some hc
      refine ⟨v, ⟨c, by rw [hcl, hz], hv, fun j u hu => ?_⟩, hg⟩
      have hj := (List.getElem?_eq_some_iff.1 hu).1
      have h3 := hcell j (by omega)
      rw [Addr.add_add, hz] at h3
      rw [h3, hu])
    refine ⟨l, ⟨some a, cap, by rw [hll], by omega, rfl, by simp only [maxLen] at hm; omega, fun _ => ⟨a, rfl, fun j p hj => ?_⟩⟩, by omega, fun v hv => ?_⟩
    · obtain ⟨⟨c, hcl, hk, hcell⟩, _⟩ := hp j p hj
      exact ⟨c, hcl, hk, hcell⟩
    · obtain ⟨i, hi⟩ := List.getElem?_of_mem hv
      exact (hp i v hi).2
theorem Opn.arg {α : Type} {d : Kd α} {g : α → Prop} (h : Opn P w t d g) {H : Type} {enc : TypeId × Value → H} {base : Nat} {spare : Nat → Bool} {held : Bool} {v : Value} {dd : DataW H} {ps : List MemPlace} (hd : DataW.Trod enc P w base spare held t v dd ps) :
    ∃ a, d.K w a v.cells.toList ∧ g a := by
  obtain ⟨fuel, hf⟩ := hd
  exact h H enc base spare held fuel _ _ hf
end
end Go.Proofs.YthfohhpjanoimaaDoorM
end

section
namespace Go.Proofs
open Go.Shelf
def Tryd.laysC174_ren : Go.Shelf.Ren := ⟨fun | 174 => 56 | 247 => 69 | 245 => 70 | 287 => 79 | 279 => 80 | 280 => 81 | 281 => 82 | 282 => 83 | 321 => 87 | 322 => 88 | 316 => 89 | 171 => 91 | 205 => 90 | 243 => 92 | 246 => 93 | 283 => 94 | 284 => 95 | 285 => 96 | 286 => 97 | 129 => 99 | 317 => 98 | 318 => 100 | 319 => 101 | 320 => 102 | 337 => 103 | 338 => 104 | n => n, fun | 9 => 9 | 3 => 3 | 2 => 2 | 75 => 78 | 85 => 85 | 4 => 4 | 167 => 102 | 5 => 5 | 53 => 103 | 175 => 104 | 46 => 101 | 168 => 106 | 37 => 73 | 0 => 0 | 210 => 119 | 21 => 21 | 127 => 91 | 145 => 123 | 143 => 121 | 171 => 125 | 173 => 128 | 212 => 131 | 51 => 113 | 20 => 20 | 213 => 132 | 232 => 136 | 233 => 137 | 80 => 81 | n => n, fun | 15 => 3 | 16 => 4 | 17 => 5 | 18 => 6 | 19 => 7 | n => n⟩
theorem Tryd.laysC174 : Go.Proofs.LaysC.n174 Tryd.prog Tryd.laysC174_ren := {
  mixed := by kernel_rfl
  f129 := Tryd.func99.trans (congrArg some (by kernel_rfl))
  f171 := Tryd.func91.trans (congrArg some (by kernel_rfl))
  f174 := Tryd.func56.trans (congrArg some (by kernel_rfl))
  f205 := Tryd.func90.trans (congrArg some (by kernel_rfl))
  f243 := Tryd.func92.trans (congrArg some (by kernel_rfl))
  f245 := Tryd.func70.trans (congrArg some (by kernel_rfl))
  f246 := Tryd.func93.trans (congrArg some (by kernel_rfl))
  f247 := Tryd.func69.trans (congrArg some (by kernel_rfl))
  f279 := Tryd.func80.trans (congrArg some (by kernel_rfl))
  f280 := Tryd.func81.trans (congrArg some (by kernel_rfl))
  f281 := Tryd.func82.trans (congrArg some (by kernel_rfl))
  f282 := Tryd.func83.trans (congrArg some (by kernel_rfl))
  f283 := Tryd.func94.trans (congrArg some (by kernel_rfl))
  f284 := Tryd.func95.trans (congrArg some (by kernel_rfl))
  f285 := Tryd.func96.trans (congrArg some (by kernel_rfl))
  f286 := Tryd.func97.trans (congrArg some (by kernel_rfl))
  f287 := Tryd.func79.trans (congrArg some (by kernel_rfl))
  f316 := Tryd.func89.trans (congrArg some (by kernel_rfl))
  f317 := Tryd.func98.trans (congrArg some (by kernel_rfl))
  f318 := Tryd.func100.trans (congrArg some (by kernel_rfl))
  f319 := Tryd.func101.trans (congrArg some (by kernel_rfl))
  f320 := Tryd.func102.trans (congrArg some (by kernel_rfl))
  f321 := Tryd.func87.trans (congrArg some (by kernel_rfl))
  f322 := Tryd.func88.trans (congrArg some (by kernel_rfl))
  f337 := Tryd.func103.trans (congrArg some (by kernel_rfl))
  f338 := Tryd.func104.trans (congrArg some (by kernel_rfl))
  t0 := Tryd.underlying0
  a0 := Tryd.isAgg0
  z0 := Tryd.sizeOf0
  v0 := Tryd.zeroValue0
  t2 := Tryd.underlying2
  a2 := Tryd.isAgg2
  z2 := Tryd.sizeOf2
  v2 := Tryd.zeroValue2
  t3 := Tryd.underlying3
  a3 := Tryd.isAgg3
  z3 := Tryd.sizeOf3
  v3 := Tryd.zeroValue3
  t4 := Tryd.underlying4
  a4 := Tryd.isAgg4
  z4 := Tryd.sizeOf4
  v4 := Tryd.zeroValue4
  t5 := Tryd.underlying5
  a5 := Tryd.isAgg5
  z5 := Tryd.sizeOf5
  v5 := Tryd.zeroValue5
  t9 := Tryd.underlying9
  a9 := Tryd.isAgg9
  z9 := Tryd.sizeOf9
  v9 := Tryd.zeroValue9
  t20 := Tryd.underlying20
  a20 := Tryd.isAgg20
  z20 := Tryd.sizeOf20
  v20 := Tryd.zeroValue20
  t21 := Tryd.underlying21
  a21 := Tryd.isAgg21
  z21 := Tryd.sizeOf21
  v21 := Tryd.zeroValue21
  t37 := Tryd.underlying73
  a37 := Tryd.isAgg73
  z37 := Tryd.sizeOf73
  v37 := Tryd.zeroValue73
  t46 := Tryd.underlying101
  a46 := Tryd.isAgg101
  z46 := Tryd.sizeOf101
  v46 := Tryd.zeroValue101
  t51 := Tryd.underlying113
  a51 := Tryd.isAgg113
  z51 := Tryd.sizeOf113
  v51 := Tryd.zeroValue113
  t53 := Tryd.underlying103
  a53 := Tryd.isAgg103
  z53 := Tryd.sizeOf103
  v53 := Tryd.zeroValue103
  t75 := Tryd.underlying78
  a75 := Tryd.isAgg78
  z75 := Tryd.sizeOf78
  v75 := Tryd.zeroValue78
  t85 := Tryd.underlying85
  a85 := Tryd.isAgg85
  z85 := Tryd.sizeOf85
  v85 := Tryd.zeroValue85
  t127 := Tryd.underlying91
  a127 := Tryd.isAgg91
  z127 := Tryd.sizeOf91
  v127 := Tryd.zeroValue91
  t143 := Tryd.underlying121
  a143 := Tryd.isAgg121
  z143 := Tryd.sizeOf121
  v143 := Tryd.zeroValue121
  t145 := Tryd.underlying123
  a145 := Tryd.isAgg123
  z145 := Tryd.sizeOf123
  v145 := Tryd.zeroValue123
  t167 := Tryd.underlying102
  a167 := Tryd.isAgg102
  z167 := Tryd.sizeOf102
  v167 := Tryd.zeroValue102
  t168 := Tryd.underlying106
  a168 := Tryd.isAgg106
  z168 := Tryd.sizeOf106
  v168 := Tryd.zeroValue106
  t171 := Tryd.underlying125
  a171 := Tryd.isAgg125
  z171 := Tryd.sizeOf125
  v171 := Tryd.zeroValue125
  t173 := Tryd.underlying128
  a173 := Tryd.isAgg128
  z173 := Tryd.sizeOf128
  v173 := Tryd.zeroValue128
  t175 := Tryd.underlying104
  a175 := Tryd.isAgg104
  z175 := Tryd.sizeOf104
  v175 := Tryd.zeroValue104
  t210 := Tryd.underlying119
  a210 := Tryd.isAgg119
  z210 := Tryd.sizeOf119
  v210 := Tryd.zeroValue119
  t212 := Tryd.underlying131
  a212 := Tryd.isAgg131
  z212 := Tryd.sizeOf131
  v212 := Tryd.zeroValue131
  t213 := Tryd.underlying132
  a213 := Tryd.isAgg132
  z213 := Tryd.sizeOf132
  t232 := Tryd.underlying136
  a232 := Tryd.isAgg136
  z232 := Tryd.sizeOf136
  v232 := Tryd.zeroValue136
  t233 := Tryd.underlying137
  a233 := Tryd.isAgg137
  z233 := Tryd.sizeOf137
  v233 := Tryd.zeroValue137
  g15 := by kernel_rfl
  g16 := by kernel_rfl
  g17 := by kernel_rfl
  g18 := by kernel_rfl
  g19 := by kernel_rfl
  t80 := Tryd.underlying81
  a80 := Tryd.isAgg81
  z80 := Tryd.sizeOf81
  v80 := Tryd.zeroValue81
  i0 := by kernel_rfl
  i2 := by kernel_rfl
  i3 := by kernel_rfl
  i4 := by kernel_rfl
  i5 := by kernel_rfl
  i9 := by kernel_rfl
  i20 := by kernel_rfl
  i21 := by kernel_rfl
  i37 := by kernel_rfl
  i46 := by kernel_rfl
  i51 := by kernel_rfl
  i53 := by kernel_rfl
  i75 := by kernel_rfl
  i80 := by kernel_rfl
  i85 := by kernel_rfl
  i127 := by kernel_rfl
  i143 := by kernel_rfl
  i145 := by kernel_rfl
  i167 := by kernel_rfl
  i168 := by kernel_rfl
  i171 := by kernel_rfl
  i173 := by kernel_rfl
  i175 := by kernel_rfl
  i210 := by kernel_rfl
  i212 := by kernel_rfl
  i232 := by kernel_rfl
  i233 := by kernel_rfl
  m15 := by kernel_rfl
  m16 := by kernel_rfl
  m17 := by kernel_rfl
  m18 := by kernel_rfl
  m19 := by kernel_rfl
  c0 := by kernel_rfl
  c2 := by kernel_rfl
  c3 := by kernel_rfl
  c4 := by kernel_rfl
  c5 := by kernel_rfl
  c9 := by kernel_rfl
  c20 := by kernel_rfl
  c21 := by kernel_rfl
  c37 := by kernel_rfl
  c46 := by kernel_rfl
  c51 := by kernel_rfl
  c53 := by kernel_rfl
  c75 := by kernel_rfl
  c80 := by kernel_rfl
  c85 := by kernel_rfl
  c127 := by kernel_rfl
  c143 := by kernel_rfl
  c145 := by kernel_rfl
  c167 := by kernel_rfl
  c168 := by kernel_rfl
  c171 := by kernel_rfl
  c173 := by kernel_rfl
  c175 := by kernel_rfl
  c210 := by kernel_rfl
  c212 := by kernel_rfl
  c213 := by kernel_rfl
  c232 := by kernel_rfl
  c233 := by kernel_rfl }
open Go.RowKit in
/-- strconv.ParseInt(s, 10, 64), AT EVERY STRING THAT SPELLS AN int64 ('Lib.parseIntB 64 s.data.toList = .ok v'): v, AND NO ERROR. (LAID: no walk: one application.) -/
theorem Tryd.strconv_ParseInt_10_at64_ok (s : ByteArray) (hmax : s.size ≤ 9223372036854775806) (v : Int) (h : Lib.parseIntB 64 s.data.toList = .ok v) (w : World) :
    Calls Tryd.prog 56 #[.string s, .int .i64 10, .int .i64 64] w fun e w' => e = .returned (.tuple #[.int .i64 v, .nilIface]) ∧ (w' = w ∨ ∃ t, w' = Lib.bytesWorld w 5 t) := Any.strconv_ParseInt_10_at64_ok Tryd.laysC174 s hmax v h w
def Tryd.lays206_ren : Go.Shelf.Ren := ⟨fun | 206 => 37 | n => n, fun | 9 => 9 | 4 => 4 | 3 => 3 | n => n, fun | n => n⟩
theorem Tryd.lays206 : Go.Proofs.Lays.n206 Tryd.prog Tryd.lays206_ren := {
  mixed := by kernel_rfl
  f206 := Tryd.func37.trans (congrArg some (by kernel_rfl))
  t3 := Tryd.underlying3
  a3 := Tryd.isAgg3
  z3 := Tryd.sizeOf3
  v3 := Tryd.zeroValue3
  t4 := Tryd.underlying4
  a4 := Tryd.isAgg4
  z4 := Tryd.sizeOf4
  v4 := Tryd.zeroValue4
  t9 := Tryd.underlying9
  a9 := Tryd.isAgg9
  z9 := Tryd.sizeOf9
  v9 := Tryd.zeroValue9 }
open Go.RowKit Go.Lib in
/-- internal/stringslite.HasPrefix (what strings.HasPrefix calls). (LAID: no walk: one application.) -/
theorem Tryd.stringslite_HasPrefix (s p : ByteArray) (w : World) :
    Calls Tryd.prog 37 #[.string s, .string p] w fun e w' => e = .returned (.bool (Lib.hasPrefix s.data.toList p.data.toList)) ∧ w' = w := Any.stringslite_HasPrefix Tryd.lays206 s p w
def Tryd.lays99_ren : Go.Shelf.Ren := ⟨fun | 99 => 21 | 206 => 37 | n => n, fun | 9 => 9 | 4 => 4 | 3 => 3 | n => n, fun | n => n⟩
theorem Tryd.lays99 : Go.Proofs.Lays.n99 Tryd.prog Tryd.lays99_ren := {
  mixed := by kernel_rfl
  f99 := Tryd.func21.trans (congrArg some (by kernel_rfl))
  f206 := Tryd.func37.trans (congrArg some (by kernel_rfl))
  t3 := Tryd.underlying3
  a3 := Tryd.isAgg3
  z3 := Tryd.sizeOf3
  v3 := Tryd.zeroValue3
  t4 := Tryd.underlying4
  a4 := Tryd.isAgg4
  z4 := Tryd.sizeOf4
  v4 := Tryd.zeroValue4
  t9 := Tryd.underlying9
  a9 := Tryd.isAgg9
  z9 := Tryd.sizeOf9
  v9 := Tryd.zeroValue9 }
open Go.RowKit Go.Lib in
/-- strings.HasPrefix: "HasPrefix reports whether the string s begins with prefix.": IT RETURNS 'Lib.hasPrefix s prefix'; the world is as it was. (LAID: no walk: one application.) -/
theorem Tryd.strings_HasPrefix (s p : ByteArray) (w : World) :
    Calls Tryd.prog 21 #[.string s, .string p] w fun e w' => e = .returned (.bool (Lib.hasPrefix s.data.toList p.data.toList)) ∧ w' = w := Any.strings_HasPrefix Tryd.lays99 s p w
def Tryd.lays146_ren : Go.Shelf.Ren := ⟨fun | 146 => 20 | 221 => 36 | 268 => 52 | 138 => 53 | 143 => 54 | 195 => 65 | 197 => 66 | 218 => 67 | 219 => 68 | 260 => 74 | 217 => 75 | 225 => 76 | 224 => 77 | 267 => 78 | 266 => 85 | 314 => 86 | n => n, fun | 9 => 9 | 31 => 34 | 3 => 3 | 4 => 4 | 0 => 0 | 105 => 93 | 21 => 21 | 5 => 5 | 46 => 101 | 119 => 109 | 139 => 112 | 138 => 111 | 146 => 114 | 51 => 113 | n => n, fun | 1 => 0 | 3 => 1 | 4 => 2 | n => n⟩
theorem Tryd.lays146 : Go.Proofs.Lays.n146 Tryd.prog Tryd.lays146_ren := {
  mixed := by kernel_rfl
  f138 := Tryd.func53.trans (congrArg some (by kernel_rfl))
  f143 := Tryd.func54.trans (congrArg some (by kernel_rfl))
  f146 := Tryd.func20.trans (congrArg some (by kernel_rfl))
  f195 := Tryd.func65.trans (congrArg some (by kernel_rfl))
  f197 := Tryd.func66.trans (congrArg some (by kernel_rfl))
  f217 := Tryd.func75.trans (congrArg some (by kernel_rfl))
  f218 := Tryd.func67.trans (congrArg some (by kernel_rfl))
  f219 := Tryd.func68.trans (congrArg some (by kernel_rfl))
  f221 := Tryd.func36.trans (congrArg some (by kernel_rfl))
  f224 := Tryd.func77.trans (congrArg some (by kernel_rfl))
  f225 := Tryd.func76.trans (congrArg some (by kernel_rfl))
  f260 := Tryd.func74.trans (congrArg some (by kernel_rfl))
  f266 := Tryd.func85.trans (congrArg some (by kernel_rfl))
  f267 := Tryd.func78.trans (congrArg some (by kernel_rfl))
  f268 := Tryd.func52.trans (congrArg some (by kernel_rfl))
  f314 := Tryd.func86.trans (congrArg some (by kernel_rfl))
  t0 := Tryd.underlying0
  a0 := Tryd.isAgg0
  z0 := Tryd.sizeOf0
  v0 := Tryd.zeroValue0
  t3 := Tryd.underlying3
  a3 := Tryd.isAgg3
  z3 := Tryd.sizeOf3
  v3 := Tryd.zeroValue3
  t4 := Tryd.underlying4
  a4 := Tryd.isAgg4
  z4 := Tryd.sizeOf4
  v4 := Tryd.zeroValue4
  t5 := Tryd.underlying5
  a5 := Tryd.isAgg5
  z5 := Tryd.sizeOf5
  v5 := Tryd.zeroValue5
  t9 := Tryd.underlying9
  a9 := Tryd.isAgg9
  z9 := Tryd.sizeOf9
  v9 := Tryd.zeroValue9
  t21 := Tryd.underlying21
  a21 := Tryd.isAgg21
  z21 := Tryd.sizeOf21
  v21 := Tryd.zeroValue21
  t31 := Tryd.underlying34
  a31 := Tryd.isAgg34
  z31 := Tryd.sizeOf34
  v31 := Tryd.zeroValue34
  t46 := Tryd.underlying101
  a46 := Tryd.isAgg101
  z46 := Tryd.sizeOf101
  v46 := Tryd.zeroValue101
  t51 := Tryd.underlying113
  a51 := Tryd.isAgg113
  z51 := Tryd.sizeOf113
  v51 := Tryd.zeroValue113
  t105 := Tryd.underlying93
  a105 := Tryd.isAgg93
  z105 := Tryd.sizeOf93
  v105 := Tryd.zeroValue93
  t119 := Tryd.underlying109
  a119 := Tryd.isAgg109
  z119 := Tryd.sizeOf109
  t138 := Tryd.underlying111
  a138 := Tryd.isAgg111
  z138 := Tryd.sizeOf111
  v138 := Tryd.zeroValue111
  t139 := Tryd.underlying112
  a139 := Tryd.isAgg112
  z139 := Tryd.sizeOf112
  v139 := Tryd.zeroValue112
  t146 := Tryd.underlying114
  a146 := Tryd.isAgg114
  z146 := Tryd.sizeOf114
  v146 := Tryd.zeroValue114
  g1 := by kernel_rfl
  g3 := by kernel_rfl
  g4 := by kernel_rfl }
open Go.RowKit Go.Lib in
/-- strings.Split. (LAID: no walk: one application.) -/
theorem Tryd.strings_Split (s sep : ByteArray) (m : Int) (w : World) (hs : s.size < 4294967281) (hm : w.cell? ⟨0, 0, none⟩ = some (.int .i64 m)) (h1 : 1 ≤ sep.size) :
    Calls Tryd.prog 20 #[.string s, .string sep] w fun e w' =>
      e = .returned (.slice (some ⟨w.heap.size, 0, none⟩) (Lib.countB s sep + 1) (Lib.countB s sep + 1)) ∧ w' = w.alloc (.cells ((Lib.splitB sep 0 (Lib.countB s sep) s).map Value.string).toArray 9) := Any.strings_Split Tryd.lays146 (by kernel_rfl) s sep m w hs hm h1
end Go.Proofs
end

section
set_option linter.unusedVariables false
set_option linter.unusedSimpArgs false
namespace Go.Proofs.YthfohhpjanoimaaDoorM
open Go.RowKit Go.Proofs.YthfohhpjanoimaaDoorW.PrintWords
structure EnvW (w : World) : Prop where mk :: (out : ∃ m, w.cell? ⟨0, 0, none⟩ = some (.int .i64 m))
theorem EnvW.below {w W : World} (h : EnvW w) (hb : Below w.heap.size w W) : EnvW W := ⟨h.out.elim fun m hm => ⟨m, pw_cell_below hb hm⟩⟩
theorem EnvW.drewN {w : World} (h : EnvW w) (n : Nat) : EnvW (w.drewN n) := ⟨h.out⟩
theorem EnvW.drew {w : World} (h : EnvW w) : EnvW w.drew := ⟨h.out⟩
theorem splitB_length (sep : ByteArray) (h1 : 1 ≤ sep.size) : ∀ (k : Nat) (s : ByteArray), Lib.countB s sep = k → (Lib.splitB sep 0 k s).length = k + 1 := by
  intro k
  induction k with
  | zero => exact fun s _ => rfl
  | succ k ih =>
    intro s h
    by_cases hi : Lib.indexB s sep = -1
    · rw [Lib.countB_miss s sep hi] at h
      cases h
    · obtain ⟨i, hi', _⟩ := (Lib.indexB_cases s sep).resolve_left hi
      rw [Lib.splitB_hit sep 0 k s i hi']
      rw [Lib.countB_hit s sep i h1 hi'] at h
      rw [List.length_cons, ih _ (by omega)]
theorem R_texts (W : World) (e : Nat) (l : List ByteArray) (n : Nat) (hn : l.length = n) (hm : n ≤ 9223372036854775807) :
    Kd.R Kd.string e (W.alloc (.cells (l.map Value.string).toArray e)) W.heap.size (fun _ => True) (.slice (some ⟨W.heap.size, 0, none⟩) n n) l := by
  subst hn
  have h := World.ownsRow_lit (base := W.heap.size) (e := e) (size := 1) W (l.map Value.string).toArray l.length (Nat.le_refl _) (by simpa [maxLen] using hm) (by simp)
  exact Kd.R_of_own (enc := Value.string) (h1 := fun _ => rfl) (by simpa [encs] using h) (fun _ _ => trivial)
theorem splitB_le (sep s : ByteArray) (h1 : 1 ≤ sep.size) (hs : s.size < 4294967281) : Lib.countB s sep + 1 ≤ 9223372036854775807 := by
  have := Lib.count_le s.data.toList sep.data.toList
  have h2 : s.data.toList.length = s.size := by rw [Array.length_toList]; rfl
  unfold Lib.countB
  omega
theorem bytesLess_turn : ∀ x y : List UInt8, (Op.bytesLess x y || x == y) = !(Op.bytesLess y x)
  | [], [] => by simp [Op.bytesLess]
  | _ :: _, [] => by simp [Op.bytesLess]
  | [], _ :: _ => by simp [Op.bytesLess]
  | a :: x, b :: y => by
    have ih := bytesLess_turn x y
    rw [Op.bytesLess, Op.bytesLess]
    rcases Nat.lt_trichotomy a.toNat b.toNat with h | h | h
    · have h1 : a < b := UInt8.lt_iff_toNat_lt.mpr h
      have h2 : ¬ b < a := fun h' => by have := UInt8.lt_iff_toNat_lt.mp h'; omega
      have h3 : (b == a) = false := by simp; intro h'; subst h'; omega
      simp [h1, h2, h3]
    · have h0 : a = b := UInt8.toNat_inj.mp h
      subst h0
      have h1 : ¬ a < a := fun h' => by have := UInt8.lt_iff_toNat_lt.mp h'; omega
      simp only [h1, decide_false, Bool.false_or, BEq.rfl, Bool.true_and, List.cons_beq_cons]
      exact ih
    · have h1 : b < a := UInt8.lt_iff_toNat_lt.mpr h
      have h2 : ¬ a < b := fun h' => by have := UInt8.lt_iff_toNat_lt.mp h'; omega
      have h3 : (a == b) = false := by simp; intro h'; subst h'; omega
      simp [h1, h2, h3]
theorem str_leq (t : TypeId) (a b : ByteArray) : binOp .leq t (.string a) (.string b) = pure (.bool !(Op.bytesLess b.toList a.toList)) := by
  rw [← bytesLess_turn]; simp [binOp, Op.stringOp]
theorem str_gtr (t : TypeId) (a b : ByteArray) : binOp .gtr t (.string a) (.string b) = pure (.bool (Op.bytesLess b.toList a.toList)) := by
  rw [show Op.bytesLess b.toList a.toList = !(!(Op.bytesLess b.toList a.toList)) by simp, ← bytesLess_turn]; simp [binOp, Op.stringOp]
theorem str_geq (t : TypeId) (a b : ByteArray) : binOp .geq t (.string a) (.string b) = pure (.bool !(Op.bytesLess a.toList b.toList)) := by simp [binOp, Op.stringOp]
attribute [go_sem high] str_leq str_gtr str_geq
theorem wrap64_mod256 (x : Int) : wrap64 (x % 256) = x % 256 := by
  have h0 := Int.emod_nonneg x (show (256 : Int) ≠ 0 by decide)
  have h1 := Int.emod_lt_of_pos x (show (0 : Int) < 256 by decide)
  unfold wrap64
  omega
attribute [go_sem high] wrap64_mod256
end Go.Proofs.YthfohhpjanoimaaDoorM
end

section
set_option linter.unusedVariables false
set_option linter.unusedSimpArgs false
namespace Go.Proofs.YthfohhpjanoimaaDoorM
open Go.RowKit Go.Proofs.YthfohhpjanoimaaDoorW.PrintWords
section
variable {d : Kd Int} {e base : Nat} {W : World} {ok ok' : Nat → Prop} {v : Value} {xs : List Int}
end
section
variable {P : Program} {ops : Array Oper} {rest : List Oper} {o o2 : Oper} {a : Act} {Q : Exit → Act → World → Prop}
end
end Go.Proofs.YthfohhpjanoimaaDoorM
end

section
set_option linter.unusedVariables false
set_option linter.unusedSimpArgs false
namespace Go.Proofs.YthfohhpjanoimaaDoorM
open Go.RowKit Go.Maps Go.Proofs.YthfohhpjanoimaaDoorW.PrintWords
structure EK (α : Type) where
  enc : α → Value
  den : α → DataW Unit
  R : Value → Option (DataW Unit × List MemPlace)
  R_enc : ∀ x, R (enc x) = some (den x, [])
  R_inv : ∀ v x ps, R v = some (den x, ps) → v = enc x
structure KK (P : Program) (k : TypeId) (κ : Type) where
  enc : κ → Value
  lit : κ → Lit
  inj : ∀ a b, lit a = lit b → a = b
  isKey : ∀ a, WideAt.IsKeyLit (lit a)
  keyed : Keyed P k
  ok : κ → Prop
  key : ∀ a, ok a → keyOf P k (enc a) = some (lit a)
section
variable {P : Program} {k : TypeId} {κ α : Type} (X : KK P k κ) (Y : EK α)
def den (m : List (κ × α)) : DataW Unit := m.foldl (fun D p => D.put (X.lit p.1) (Y.den p.2)) (.map [])
def MapAt (W : World) (g : Nat) (m : List (κ × α)) : Prop := W.ownsMap P k Y.R g m.length (den X Y m)
variable {X Y} {W W1 w1 : World} {g : Nat} {m : List (κ × α)}
theorem MapAt.lt (h : MapAt X Y W g m) : g < W.heap.size := World.ownsMap.lt h
theorem MapAt.obj (h : MapAt X Y W g m) : ∃ es c, W.heap[g]? = some (.map es c) := by
  obtain ⟨es, c, hb, _⟩ := h
  exact ⟨es, c, hb⟩
theorem MapAt.move (h : MapAt X Y W g m) (hm : W1.heap[g]? = W.heap[g]?) : MapAt X Y W1 g m := by
  obtain ⟨es, c, hb, hr⟩ := h
  exact ⟨es, c, hm.trans hb, hr⟩
theorem MapAt.alloc (h : MapAt X Y W g m) (o : Obj) : MapAt X Y (W.alloc o) g m := World.ownsMap.alloc h o
theorem MapAt.drew (h : MapAt X Y W g m) : MapAt X Y W.drew g m := h
theorem MapAt.drewN (h : MapAt X Y W g m) (n : Nat) : MapAt X Y (W.drewN n) g m := h
theorem MapAt.below (h : MapAt X Y W g m) (hb : Below W.heap.size W W1) : MapAt X Y W1 g m := h.move (hb.block g h.lt)
theorem MapAt.at_ {W0 : World} (hq : W = W0) (h : MapAt X Y W g m) : MapAt X Y W0 g m := hq ▸ h
theorem MapAt.grown {v : Value} {e : Nat} (h : MapAt X Y W g m) (hty : ∀ q, v.ownBlock = some q → ∃ cells, W.heap[q]? = some (.cells cells e (0, 0))) (hg : W.grownBy W1 v.ownBlock) : MapAt X Y W1 g m := by
  refine h.move (hg.block g h.lt ?_)
  intro he
  obtain ⟨cells, hc⟩ := hty g he.symm
  obtain ⟨es, c, hm⟩ := h.obj
  rw [hm] at hc
  cases hc
end
section
variable {P : Program} {ops : Array Oper} {rest : List Oper} {o : Oper} {a : Act} {Q : Exit → Act → World → Prop} {W : World} {k : TypeId} {κ α : Type}
end
end Go.Proofs.YthfohhpjanoimaaDoorM
end
