/- Texts of Lex, put together by program. -/
import Derived.ChangeArms
import Derived.DataReads
import Derived.DataElems
import Derived.WideShapes
import Derived.Test.YthplhhodljpdcaaDoorMLex1
import Derived.Shelf.Strings.Trim
import Derived.Shelf.Small.Utf8
import Derived.Shelf.Small.Strs
import Derived.Shelf.Strconv.Itoa0
import Derived.Shelf.Strconv.Itoa1
import Derived.Shelf.LaysM
import Derived.Shelf.Strconv.Itoa2
import Derived.Shelf.Strconv.Itoa3
import Derived.Shelf.Strconv.ParseIntEmpty
import Derived.Shelf.Strconv.Clone
import Derived.Shelf.Strconv.SyntaxError
import Derived.Shelf.LaysC
import Derived.Shelf.Strconv.ToError
import Derived.Shelf.Strconv.Lower
import Derived.Shelf.Strconv.ParseUint10
import Derived.Shelf.Strconv.ParseUint10Empty
import Derived.Shelf.Strconv.ParseUint10Any
import Derived.Shelf.Strconv.ParseInt10
import Derived.Shelf.Strconv.RangeError
import Derived.Shelf.Strconv.ToErrorRange
import Derived.Shelf.Strconv.ParseUintEmpty
import Derived.Shelf.Strconv.ParseUint10b64
import Derived.Shelf.Strconv.ParseUint10b32
import Derived.Shelf.Strconv.ParseUint10b16
import Derived.Shelf.Strconv.ParseUint10b8
import Derived.Shelf.Strconv.ParseUint10At
import Derived.Shelf.Strconv.ParseInt10At64
import Derived.Shelf.Strconv.ParseInt10At32
import Derived.Shelf.Strconv.ParseInt10At16
import Derived.Shelf.Strconv.ParseInt10At8
import Derived.Shelf.Strconv.ParseInt10All
import Derived.Shelf.Strconv.ParseIntPublic10
import Derived.Shelf.Strings.Search1
import Derived.Shelf.Strings.Prefix
import Derived.Shelf.Unicode.Decode
import Derived.Shelf.Strings.Runes
import Derived.Shelf.Strings.AsciiSet
import Derived.Shelf.Unicode.DecodeSlow
import Derived.Shelf.Unicode.DecodeAny
import Derived.Test.YthplhhodljpdcaaDoorProg
import Derived.Lib.Split
import Derived.Laws.ByValue
import Derived.Lib.SliceRun
import Derived.Lib.Replace
import Derived.Lib.LastIndexByte
import Derived.Lib.CutLaws
import Derived.Laws.IdiomStrings
import Derived.Maps.OwnSet
import Derived.Maps.OwnOps
import Derived.StringKeys

section
set_option linter.unusedVariables false
set_option linter.unusedSimpArgs false
namespace Go.Proofs.YthplhhodljpdcaaDoorM
open Go.RowKit Go.Proofs.YthplhhodljpdcaaDoorW.PrintWords
def Opn {α : Type} (P : Program) (w : World) (t : TypeId) (d : Kd α) (g : α → Prop) : Prop :=
  ∀ (H : Type) (enc : TypeId × Value → H) (base : Nat) (spare : Nat → Bool) (held : Bool) (fuel : Nat) (cs : List Value) (x : DataW H × List MemPlace), DataW.trod enc P w base spare held fuel t cs = some x → ∃ a, d.K w a cs ∧ g a
def OpnF {α : Type} (P : Program) (w : World) (fs : Array Field) (size i off : Nat) (d : Kd α) (g : α → Prop) : Prop :=
  ∀ (H : Type) (enc : TypeId × Value → H) (base : Nat) (spare : Nat → Bool) (held : Bool) (n : Nat) (cs : List Value) (xs : List (DataW H × List MemPlace)), cs.length = size → xs.length = fs.size →
    (∀ (i : Nat) (f : Field), fs[i]? = some f → DataW.trod enc P w base spare held n f.type ((cs.drop f.offset).take (P.cellsOf f.type)) = xs[i]?) → ∃ a, d.K w a (cs.drop off) ∧ g a
section
variable {P : Program} {w : World} {t : TypeId}
theorem Opn.bool (ht : P.underlying t = some .bool) : Opn P w t Kd.bool (fun _ => True) := by
  intro H enc base spare held fuel cs x h
  obtain ⟨b, rfl, _⟩ := DataW.trod_bool ht h
  exact ⟨b, rfl, trivial⟩
theorem Opn.int {k : IntKind} (ht : P.underlying t = some (.int k)) : Opn P w t (Kd.int k) (fun n => (Lit.int k n).wf = true) := by
  intro H enc base spare held fuel cs x h
  obtain ⟨n, rfl, _, hw⟩ := DataW.trod_int ht h
  exact ⟨n, rfl, hw⟩
theorem Opn.string (ht : P.underlying t = some .string) : Opn P w t Kd.string (fun s => s.size ≤ maxLen) := by
  intro H enc base spare held fuel cs x h
  obtain ⟨s, rfl, _, hw⟩ := DataW.trod_string ht h
  exact ⟨s, rfl, hw⟩
theorem Opn.iso {α β : Type} {d : Kd α} {g : α → Prop} (f : β → α) (fi : α → β) (hf : ∀ a, f (fi a) = a) (h : Opn P w t d g) : Opn P w t (Kd.iso d f) (fun b => g (f b)) := by
  intro H enc base spare held fuel cs x hx
  obtain ⟨a, ha, hg⟩ := h H enc base spare held fuel cs x hx
  refine ⟨fi a, ?_, ?_⟩
  · show d.K w (f (fi a)) cs
    rw [hf]; exact ha
  · show g (f (fi a))
    rw [hf]; exact hg
theorem OpnF.cons {α β : Type} {d1 : Kd α} {d2 : Kd β} {g1 : α → Prop} {g2 : β → Prop} {fs : Array Field} {size i off off' : Nat} (f : Field) (hf : fs[i]? = some f) (ho : f.offset = off) (hs : off + P.cellsOf f.type = off') (h : Opn P w f.type d1 g1)
    (hr : OpnF P w fs size (i + 1) off' d2 g2) : OpnF P w fs size i off (Kd.pair d1 d2) (fun x => g1 x.1 ∧ g2 x.2) := by
  intro H enc base spare held n cs xs hc hx he
  have h1 := he i f hf
  have hi : i < xs.length := by
    rw [hx]
    exact (Array.getElem?_eq_some_iff.1 hf).1
  rw [List.getElem?_eq_getElem hi, ho] at h1
  obtain ⟨a, ha, hga⟩ := h H enc base spare held n _ _ h1
  obtain ⟨b, hb, hgb⟩ := hr H enc base spare held n cs xs hc hx he
  refine ⟨(a, b), ⟨_, _, ?_, ha, hb⟩, hga, hgb⟩
  rw [← hs, ← List.drop_drop, List.take_append_drop]
theorem Opn.struct {α : Type} {d : Kd α} {g : α → Prop} {fs : Array Field} (ht : P.underlying t = some (.struct fs)) (h : OpnF P w fs (P.cellsOf t) 0 0 d g) : Opn P w t d g := by
  intro H enc base spare held fuel cs x hx
  obtain ⟨xs, n, rfl, rfl, hc, hl, he⟩ := DataW.trod_struct ht hx
  exact h H enc base spare held n cs xs hc hl he
theorem choose_list {α : Type} {p : Nat → α → Prop} : ∀ n, (∀ i, i < n → ∃ a, p i a) → ∃ l : List α, l.length = n ∧ ∀ i a, l[i]? = some a → p i a
  | 0, _ => ⟨[], rfl, fun i a h => by simp at h⟩
  | n + 1, h => by
    obtain ⟨l, hl, hp⟩ := choose_list n (fun i hi => h i (by omega))
    obtain ⟨a, ha⟩ := h n (by omega)
    refine ⟨l ++ [a], by simp [hl], fun i b hb => ?_⟩
    rcases Nat.lt_or_ge i n with h1 | h1
    · rw [List.getElem?_append_left (by omega)] at hb
      exact hp i b hb
    · have h2 := (List.getElem?_eq_some_iff.1 hb).1
      simp only [List.length_append, List.length_cons, List.length_nil] at h2
      obtain rfl : i = n := by omega
      rw [List.getElem?_append_right (by omega), hl, Nat.sub_self] at hb
      simp at hb
      subst hb
      exact ha
theorem Opn.slice {α : Type} {d : Kd α} {g : α → Prop} {e : TypeId} (ht : P.underlying t = some (.slice e)) (hz : P.cellsOf e = d.sz) (h : Opn P w e d g) : Opn P w t (Kd.slice e d) (fun l => l.length ≤ maxLen ∧ ∀ a ∈ l, g a) := by
  intro H enc base spare held fuel cs x hx
  rcases DataW.trod_slice ht hx with ⟨rfl, rfl⟩ | ⟨a, len, cap, elems, rest, n, _, rfl, rfl, hb, hl, hm, hlen, hel, _, _⟩
  · exact ⟨[], ⟨none, 0, rfl, Nat.le_refl _, rfl, by simp, fun h0 => absurd h0 (Nat.lt_irrefl 0)⟩, by simp, fun a ha => by cases ha⟩
  · obtain ⟨l, hll, hp⟩ := choose_list (p := fun i v => (∃ c, c.length = d.sz ∧ d.K w v c ∧ ∀ j u, c[j]? = some u → w.cell? (a.add (i * d.sz + j)) = some u) ∧ g v) len (fun i hi => by
      have h1 := hel i hi
      rw [List.getElem?_eq_getElem (by omega), Option.bind_eq_some_iff] at h1
      obtain ⟨c, hc, h2⟩ := h1
      obtain ⟨v, hv, hg⟩ := h H enc base spare held n c _ h2
      obtain ⟨_, hcl, hcell⟩ := World.cells?_some hc
      refine ⟨v, ⟨c, by rw [hcl, hz], hv, fun j u hu => ?_⟩, hg⟩
      have hj := (List.getElem?_eq_some_iff.1 hu).1
      have h3 := hcell j (by omega)
      rw [Addr.add_add, hz] at h3
      rw [h3, hu])
    refine ⟨l, ⟨some a, cap, by rw [hll], by omega, rfl, by simp only [maxLen] at hm; omega, fun _ => ⟨a, rfl, fun j p hj => ?_⟩⟩, by omega, fun v hv => ?_⟩
    · obtain ⟨⟨c, hcl, hk, hcell⟩, _⟩ := hp j p hj
      exact ⟨c, hcl, hk, hcell⟩
    · obtain ⟨i, hi⟩ := List.getElem?_of_mem hv
      exact (hp i v hi).2
theorem Opn.arg {α : Type} {d : Kd α} {g : α → Prop} (h : Opn P w t d g) {H : Type} {enc : TypeId × Value → H} {base : Nat} {spare : Nat → Bool} {held : Bool} {v : Value} {dd : DataW H} {ps : List MemPlace} (hd : DataW.Trod enc P w base spare held t v dd ps) :
    ∃ a, d.K w a v.cells.toList ∧ g a := by
  obtain ⟨fuel, hf⟩ := hd
  exact h H enc base spare held fuel _ _ hf
end
end Go.Proofs.YthplhhodljpdcaaDoorM
end

section
namespace Go.Proofs
open Go.Shelf
def Tryd.lays161_ren : Go.Shelf.Ren := ⟨fun | 161 => 21 | 231 => 25 | 227 => 26 | 233 => 27 | 235 => 28 | 228 => 33 | 197 => 34 | 151 => 35 | 260 => 42 | 152 => 43 | 137 => 23 | 119 => 49 | 224 => 50 | 225 => 51 | 217 => 31 | 266 => 41 | n => n, fun | 9 => 9 | 4 => 4 | 3 => 3 | 5 => 5 | 117 => 50 | 116 => 49 | 0 => 0 | 124 => 53 | 105 => 55 | 21 => 21 | 119 => 72 | 46 => 62 | 139 => 75 | 138 => 74 | n => n, fun | 3 => 4 | 4 => 5 | n => n⟩
theorem Tryd.lays161 : Go.Proofs.Lays.n161 Tryd.prog Tryd.lays161_ren := {
  mixed := by kernel_rfl
  f119 := Tryd.func49.trans (congrArg some (by kernel_rfl))
  f137 := Tryd.func23.trans (congrArg some (by kernel_rfl))
  f151 := Tryd.func35.trans (congrArg some (by kernel_rfl))
  f152 := Tryd.func43.trans (congrArg some (by kernel_rfl))
  f161 := Tryd.func21.trans (congrArg some (by kernel_rfl))
  f197 := Tryd.func34.trans (congrArg some (by kernel_rfl))
  f217 := Tryd.func31.trans (congrArg some (by kernel_rfl))
  f224 := Tryd.func50.trans (congrArg some (by kernel_rfl))
  f225 := Tryd.func51.trans (congrArg some (by kernel_rfl))
  f227 := Tryd.func26.trans (congrArg some (by kernel_rfl))
  f228 := Tryd.func33.trans (congrArg some (by kernel_rfl))
  f231 := Tryd.func25.trans (congrArg some (by kernel_rfl))
  f233 := Tryd.func27.trans (congrArg some (by kernel_rfl))
  f235 := Tryd.func28.trans (congrArg some (by kernel_rfl))
  f260 := Tryd.func42.trans (congrArg some (by kernel_rfl))
  f266 := Tryd.func41.trans (congrArg some (by kernel_rfl))
  t0 := Tryd.underlying0
  a0 := Tryd.isAgg0
  z0 := Tryd.sizeOf0
  v0 := Tryd.zeroValue0
  t3 := Tryd.underlying3
  a3 := Tryd.isAgg3
  z3 := Tryd.sizeOf3
  v3 := Tryd.zeroValue3
  t4 := Tryd.underlying4
  a4 := Tryd.isAgg4
  z4 := Tryd.sizeOf4
  v4 := Tryd.zeroValue4
  t5 := Tryd.underlying5
  a5 := Tryd.isAgg5
  z5 := Tryd.sizeOf5
  v5 := Tryd.zeroValue5
  t9 := Tryd.underlying9
  a9 := Tryd.isAgg9
  z9 := Tryd.sizeOf9
  v9 := Tryd.zeroValue9
  t21 := Tryd.underlying21
  a21 := Tryd.isAgg21
  z21 := Tryd.sizeOf21
  v21 := Tryd.zeroValue21
  t46 := Tryd.underlying62
  a46 := Tryd.isAgg62
  z46 := Tryd.sizeOf62
  v46 := Tryd.zeroValue62
  t105 := Tryd.underlying55
  a105 := Tryd.isAgg55
  z105 := Tryd.sizeOf55
  v105 := Tryd.zeroValue55
  t116 := Tryd.underlying49
  a116 := Tryd.isAgg49
  z116 := Tryd.sizeOf49
  t117 := Tryd.underlying50
  a117 := Tryd.isAgg50
  z117 := Tryd.sizeOf50
  v117 := Tryd.zeroValue50
  t119 := Tryd.underlying72
  a119 := Tryd.isAgg72
  z119 := Tryd.sizeOf72
  t124 := Tryd.underlying53
  a124 := Tryd.isAgg53
  z124 := Tryd.sizeOf53
  v124 := Tryd.zeroValue53
  t138 := Tryd.underlying74
  a138 := Tryd.isAgg74
  z138 := Tryd.sizeOf74
  v138 := Tryd.zeroValue74
  t139 := Tryd.underlying75
  a139 := Tryd.isAgg75
  z139 := Tryd.sizeOf75
  v139 := Tryd.zeroValue75
  g3 := by kernel_rfl
  g4 := by kernel_rfl }
open Go.RowKit in
/-- strings.TrimLeft: "TrimLeft returns a slice of the string s with all leading Unicode code points contained in cutset removed.": AT A cutset OF ONE ASCII BYTE. The world is as it was. (LAID: no walk: one application.) -/
theorem Tryd.strings_TrimLeft_one (s : ByteArray) (c : UInt8) (hc : c.toNat < 128) (w : World) :
    Calls Tryd.prog 21 #[.string s, .string ⟨#[c]⟩] w fun e w' => e = .returned (.string ⟨(Lib.trimLeftB s.data.toList c).toArray⟩) ∧ w' = w := Any.strings_TrimLeft_one Tryd.lays161 s c hc w
def Tryd.lays137_ren : Go.Shelf.Ren := ⟨fun | 137 => 23 | 217 => 31 | 266 => 41 | n => n, fun | 9 => 9 | 5 => 5 | 3 => 3 | n => n, fun | n => n⟩
theorem Tryd.lays137 : Go.Proofs.Lays.n137 Tryd.prog Tryd.lays137_ren := {
  mixed := by kernel_rfl
  f137 := Tryd.func23.trans (congrArg some (by kernel_rfl))
  f217 := Tryd.func31.trans (congrArg some (by kernel_rfl))
  f266 := Tryd.func41.trans (congrArg some (by kernel_rfl))
  t3 := Tryd.underlying3
  a3 := Tryd.isAgg3
  z3 := Tryd.sizeOf3
  v3 := Tryd.zeroValue3
  t5 := Tryd.underlying5
  a5 := Tryd.isAgg5
  z5 := Tryd.sizeOf5
  v5 := Tryd.zeroValue5
  t9 := Tryd.underlying9
  a9 := Tryd.isAgg9
  z9 := Tryd.sizeOf9
  v9 := Tryd.zeroValue9 }
open Go.RowKit in
/-- strings.IndexByte: "IndexByte returns the index of the first instance of c in s, or -1 if c is not present in s.": IT RETURNS 'Lib.indexByte s c'; the world is as it was. (LAID: no walk: one application.) -/
theorem Tryd.strings_IndexByte (s : ByteArray) (c : Int) (w : World) :
    Calls Tryd.prog 23 #[.string s, .int .u8 c] w fun e w' => e = .returned (.int .i64 (Lib.indexByte s.data.toList c.toNat.toUInt8)) ∧ w' = w := Any.strings_IndexByte Tryd.lays137 s c w
def Tryd.laysC174_ren : Go.Shelf.Ren := ⟨fun | 174 => 22 | 247 => 29 | 245 => 30 | 287 => 36 | 279 => 37 | 280 => 38 | 281 => 39 | 282 => 40 | 321 => 44 | 322 => 45 | 316 => 46 | 171 => 48 | 205 => 47 | 243 => 52 | 246 => 53 | 283 => 54 | 284 => 55 | 285 => 56 | 286 => 57 | 129 => 59 | 317 => 58 | 318 => 60 | 319 => 61 | 320 => 62 | 337 => 63 | 338 => 64 | n => n, fun | 9 => 9 | 3 => 3 | 2 => 2 | 75 => 41 | 85 => 42 | 4 => 4 | 167 => 58 | 5 => 5 | 53 => 59 | 175 => 60 | 46 => 62 | 168 => 63 | 37 => 44 | 0 => 0 | 210 => 70 | 21 => 21 | 127 => 79 | 145 => 82 | 143 => 80 | 171 => 84 | 173 => 87 | 212 => 90 | 51 => 91 | 20 => 20 | 213 => 92 | 232 => 96 | 233 => 97 | 80 => 98 | n => n, fun | 15 => 1 | 16 => 2 | 17 => 6 | 18 => 7 | 19 => 8 | n => n⟩
theorem Tryd.laysC174 : Go.Proofs.LaysC.n174 Tryd.prog Tryd.laysC174_ren := {
  mixed := by kernel_rfl
  f129 := Tryd.func59.trans (congrArg some (by kernel_rfl))
  f171 := Tryd.func48.trans (congrArg some (by kernel_rfl))
  f174 := Tryd.func22.trans (congrArg some (by kernel_rfl))
  f205 := Tryd.func47.trans (congrArg some (by kernel_rfl))
  f243 := Tryd.func52.trans (congrArg some (by kernel_rfl))
  f245 := Tryd.func30.trans (congrArg some (by kernel_rfl))
  f246 := Tryd.func53.trans (congrArg some (by kernel_rfl))
  f247 := Tryd.func29.trans (congrArg some (by kernel_rfl))
  f279 := Tryd.func37.trans (congrArg some (by kernel_rfl))
  f280 := Tryd.func38.trans (congrArg some (by kernel_rfl))
  f281 := Tryd.func39.trans (congrArg some (by kernel_rfl))
  f282 := Tryd.func40.trans (congrArg some (by kernel_rfl))
  f283 := Tryd.func54.trans (congrArg some (by kernel_rfl))
  f284 := Tryd.func55.trans (congrArg some (by kernel_rfl))
  f285 := Tryd.func56.trans (congrArg some (by kernel_rfl))
  f286 := Tryd.func57.trans (congrArg some (by kernel_rfl))
  f287 := Tryd.func36.trans (congrArg some (by kernel_rfl))
  f316 := Tryd.func46.trans (congrArg some (by kernel_rfl))
  f317 := Tryd.func58.trans (congrArg some (by kernel_rfl))
  f318 := Tryd.func60.trans (congrArg some (by kernel_rfl))
  f319 := Tryd.func61.trans (congrArg some (by kernel_rfl))
  f320 := Tryd.func62.trans (congrArg some (by kernel_rfl))
  f321 := Tryd.func44.trans (congrArg some (by kernel_rfl))
  f322 := Tryd.func45.trans (congrArg some (by kernel_rfl))
  f337 := Tryd.func63.trans (congrArg some (by kernel_rfl))
  f338 := Tryd.func64.trans (congrArg some (by kernel_rfl))
  t0 := Tryd.underlying0
  a0 := Tryd.isAgg0
  z0 := Tryd.sizeOf0
  v0 := Tryd.zeroValue0
  t2 := Tryd.underlying2
  a2 := Tryd.isAgg2
  z2 := Tryd.sizeOf2
  v2 := Tryd.zeroValue2
  t3 := Tryd.underlying3
  a3 := Tryd.isAgg3
  z3 := Tryd.sizeOf3
  v3 := Tryd.zeroValue3
  t4 := Tryd.underlying4
  a4 := Tryd.isAgg4
  z4 := Tryd.sizeOf4
  v4 := Tryd.zeroValue4
  t5 := Tryd.underlying5
  a5 := Tryd.isAgg5
  z5 := Tryd.sizeOf5
  v5 := Tryd.zeroValue5
  t9 := Tryd.underlying9
  a9 := Tryd.isAgg9
  z9 := Tryd.sizeOf9
  v9 := Tryd.zeroValue9
  t20 := Tryd.underlying20
  a20 := Tryd.isAgg20
  z20 := Tryd.sizeOf20
  v20 := Tryd.zeroValue20
  t21 := Tryd.underlying21
  a21 := Tryd.isAgg21
  z21 := Tryd.sizeOf21
  v21 := Tryd.zeroValue21
  t37 := Tryd.underlying44
  a37 := Tryd.isAgg44
  z37 := Tryd.sizeOf44
  v37 := Tryd.zeroValue44
  t46 := Tryd.underlying62
  a46 := Tryd.isAgg62
  z46 := Tryd.sizeOf62
  v46 := Tryd.zeroValue62
  t51 := Tryd.underlying91
  a51 := Tryd.isAgg91
  z51 := Tryd.sizeOf91
  v51 := Tryd.zeroValue91
  t53 := Tryd.underlying59
  a53 := Tryd.isAgg59
  z53 := Tryd.sizeOf59
  v53 := Tryd.zeroValue59
  t75 := Tryd.underlying41
  a75 := Tryd.isAgg41
  z75 := Tryd.sizeOf41
  v75 := Tryd.zeroValue41
  t85 := Tryd.underlying42
  a85 := Tryd.isAgg42
  z85 := Tryd.sizeOf42
  v85 := Tryd.zeroValue42
  t127 := Tryd.underlying79
  a127 := Tryd.isAgg79
  z127 := Tryd.sizeOf79
  v127 := Tryd.zeroValue79
  t143 := Tryd.underlying80
  a143 := Tryd.isAgg80
  z143 := Tryd.sizeOf80
  v143 := Tryd.zeroValue80
  t145 := Tryd.underlying82
  a145 := Tryd.isAgg82
  z145 := Tryd.sizeOf82
  v145 := Tryd.zeroValue82
  t167 := Tryd.underlying58
  a167 := Tryd.isAgg58
  z167 := Tryd.sizeOf58
  v167 := Tryd.zeroValue58
  t168 := Tryd.underlying63
  a168 := Tryd.isAgg63
  z168 := Tryd.sizeOf63
  v168 := Tryd.zeroValue63
  t171 := Tryd.underlying84
  a171 := Tryd.isAgg84
  z171 := Tryd.sizeOf84
  v171 := Tryd.zeroValue84
  t173 := Tryd.underlying87
  a173 := Tryd.isAgg87
  z173 := Tryd.sizeOf87
  v173 := Tryd.zeroValue87
  t175 := Tryd.underlying60
  a175 := Tryd.isAgg60
  z175 := Tryd.sizeOf60
  v175 := Tryd.zeroValue60
  t210 := Tryd.underlying70
  a210 := Tryd.isAgg70
  z210 := Tryd.sizeOf70
  v210 := Tryd.zeroValue70
  t212 := Tryd.underlying90
  a212 := Tryd.isAgg90
  z212 := Tryd.sizeOf90
  v212 := Tryd.zeroValue90
  t213 := Tryd.underlying92
  a213 := Tryd.isAgg92
  z213 := Tryd.sizeOf92
  t232 := Tryd.underlying96
  a232 := Tryd.isAgg96
  z232 := Tryd.sizeOf96
  v232 := Tryd.zeroValue96
  t233 := Tryd.underlying97
  a233 := Tryd.isAgg97
  z233 := Tryd.sizeOf97
  v233 := Tryd.zeroValue97
  g15 := by kernel_rfl
  g16 := by kernel_rfl
  g17 := by kernel_rfl
  g18 := by kernel_rfl
  g19 := by kernel_rfl
  t80 := Tryd.underlying98
  a80 := Tryd.isAgg98
  z80 := Tryd.sizeOf98
  v80 := Tryd.zeroValue98
  i0 := by kernel_rfl
  i2 := by kernel_rfl
  i3 := by kernel_rfl
  i4 := by kernel_rfl
  i5 := by kernel_rfl
  i9 := by kernel_rfl
  i20 := by kernel_rfl
  i21 := by kernel_rfl
  i37 := by kernel_rfl
  i46 := by kernel_rfl
  i51 := by kernel_rfl
  i53 := by kernel_rfl
  i75 := by kernel_rfl
  i80 := by kernel_rfl
  i85 := by kernel_rfl
  i127 := by kernel_rfl
  i143 := by kernel_rfl
  i145 := by kernel_rfl
  i167 := by kernel_rfl
  i168 := by kernel_rfl
  i171 := by kernel_rfl
  i173 := by kernel_rfl
  i175 := by kernel_rfl
  i210 := by kernel_rfl
  i212 := by kernel_rfl
  i232 := by kernel_rfl
  i233 := by kernel_rfl
  m15 := by kernel_rfl
  m16 := by kernel_rfl
  m17 := by kernel_rfl
  m18 := by kernel_rfl
  m19 := by kernel_rfl
  c0 := by kernel_rfl
  c2 := by kernel_rfl
  c3 := by kernel_rfl
  c4 := by kernel_rfl
  c5 := by kernel_rfl
  c9 := by kernel_rfl
  c20 := by kernel_rfl
  c21 := by kernel_rfl
  c37 := by kernel_rfl
  c46 := by kernel_rfl
  c51 := by kernel_rfl
  c53 := by kernel_rfl
  c75 := by kernel_rfl
  c80 := by kernel_rfl
  c85 := by kernel_rfl
  c127 := by kernel_rfl
  c143 := by kernel_rfl
  c145 := by kernel_rfl
  c167 := by kernel_rfl
  c168 := by kernel_rfl
  c171 := by kernel_rfl
  c173 := by kernel_rfl
  c175 := by kernel_rfl
  c210 := by kernel_rfl
  c212 := by kernel_rfl
  c213 := by kernel_rfl
  c232 := by kernel_rfl
  c233 := by kernel_rfl }
open Go.RowKit in
/-- strconv.ParseInt(s, 10, 64), AT EVERY STRING THAT SPELLS AN int64 ('Lib.parseIntB 64 s.data.toList = .ok v'): v, AND NO ERROR. (LAID: no walk: one application.) -/
theorem Tryd.strconv_ParseInt_10_at64_ok (s : ByteArray) (hmax : s.size ≤ 9223372036854775806) (v : Int) (h : Lib.parseIntB 64 s.data.toList = .ok v) (w : World) :
    Calls Tryd.prog 22 #[.string s, .int .i64 10, .int .i64 64] w fun e w' => e = .returned (.tuple #[.int .i64 v, .nilIface]) ∧ (w' = w ∨ ∃ t, w' = Lib.bytesWorld w 5 t) := Any.strconv_ParseInt_10_at64_ok Tryd.laysC174 s hmax v h w
def Tryd.lays206_ren : Go.Shelf.Ren := ⟨fun | 206 => 32 | n => n, fun | 9 => 9 | 4 => 4 | 3 => 3 | n => n, fun | n => n⟩
theorem Tryd.lays206 : Go.Proofs.Lays.n206 Tryd.prog Tryd.lays206_ren := {
  mixed := by kernel_rfl
  f206 := Tryd.func32.trans (congrArg some (by kernel_rfl))
  t3 := Tryd.underlying3
  a3 := Tryd.isAgg3
  z3 := Tryd.sizeOf3
  v3 := Tryd.zeroValue3
  t4 := Tryd.underlying4
  a4 := Tryd.isAgg4
  z4 := Tryd.sizeOf4
  v4 := Tryd.zeroValue4
  t9 := Tryd.underlying9
  a9 := Tryd.isAgg9
  z9 := Tryd.sizeOf9
  v9 := Tryd.zeroValue9 }
open Go.RowKit Go.Lib in
/-- internal/stringslite.HasPrefix (what strings.HasPrefix calls). (LAID: no walk: one application.) -/
theorem Tryd.stringslite_HasPrefix (s p : ByteArray) (w : World) :
    Calls Tryd.prog 32 #[.string s, .string p] w fun e w' => e = .returned (.bool (Lib.hasPrefix s.data.toList p.data.toList)) ∧ w' = w := Any.stringslite_HasPrefix Tryd.lays206 s p w
def Tryd.lays99_ren : Go.Shelf.Ren := ⟨fun | 99 => 24 | 206 => 32 | n => n, fun | 9 => 9 | 4 => 4 | 3 => 3 | n => n, fun | n => n⟩
theorem Tryd.lays99 : Go.Proofs.Lays.n99 Tryd.prog Tryd.lays99_ren := {
  mixed := by kernel_rfl
  f99 := Tryd.func24.trans (congrArg some (by kernel_rfl))
  f206 := Tryd.func32.trans (congrArg some (by kernel_rfl))
  t3 := Tryd.underlying3
  a3 := Tryd.isAgg3
  z3 := Tryd.sizeOf3
  v3 := Tryd.zeroValue3
  t4 := Tryd.underlying4
  a4 := Tryd.isAgg4
  z4 := Tryd.sizeOf4
  v4 := Tryd.zeroValue4
  t9 := Tryd.underlying9
  a9 := Tryd.isAgg9
  z9 := Tryd.sizeOf9
  v9 := Tryd.zeroValue9 }
open Go.RowKit Go.Lib in
/-- strings.HasPrefix: "HasPrefix reports whether the string s begins with prefix.": IT RETURNS 'Lib.hasPrefix s prefix'; the world is as it was. (LAID: no walk: one application.) -/
theorem Tryd.strings_HasPrefix (s p : ByteArray) (w : World) :
    Calls Tryd.prog 24 #[.string s, .string p] w fun e w' => e = .returned (.bool (Lib.hasPrefix s.data.toList p.data.toList)) ∧ w' = w := Any.strings_HasPrefix Tryd.lays99 s p w
end Go.Proofs
end

section
set_option linter.unusedVariables false
set_option linter.unusedSimpArgs false
namespace Go.Proofs.YthplhhodljpdcaaDoorM
open Go.RowKit Go.Proofs.YthplhhodljpdcaaDoorW.PrintWords
def signsL : List ByteArray := [⟨#[46, 46, 46]⟩, ⟨#[45, 62]⟩, ⟨#[47, 47]⟩, ⟨#[43, 43]⟩, ⟨#[38, 38]⟩, ⟨#[124, 124]⟩, ⟨#[61, 61]⟩, ⟨#[33, 61]⟩, ⟨#[60, 61]⟩, ⟨#[62, 61]⟩, ⟨#[123]⟩, ⟨#[125]⟩, ⟨#[91]⟩, ⟨#[93]⟩, ⟨#[40]⟩, ⟨#[41]⟩, ⟨#[59]⟩, ⟨#[58]⟩, ⟨#[44]⟩, ⟨#[46]⟩, ⟨#[63]⟩, ⟨#[61]⟩, ⟨#[60]⟩, ⟨#[62]⟩, ⟨#[43]⟩, ⟨#[45]⟩, ⟨#[42]⟩, ⟨#[47]⟩, ⟨#[33]⟩]
structure EnvW (w : World) : Prop where mk :: (out : ∃ m, w.cell? ⟨3, 0, none⟩ = some (.int .i64 m)) (glob900 : ∃ A c, w.cell? ⟨0, 0, none⟩ = some (.slice A signsL.length c) ∧ signsL.length ≤ c ∧ Kd.C Kd.string w A signsL.length signsL)
theorem EnvW.below {w W : World} (h : EnvW w) (hb : Below w.heap.size w W) : EnvW W := by
  obtain ⟨A, c, h1, h2, h3⟩ := h.glob900
  exact ⟨h.out.elim fun m hm => ⟨m, pw_cell_below hb hm⟩, ⟨A, c, pw_cell_below hb h1, h2, Kd.C_below h3 hb⟩⟩
theorem EnvW.drewN {w : World} (h : EnvW w) (n : Nat) : EnvW (w.drewN n) := ⟨h.out, h.glob900⟩
theorem EnvW.drew {w : World} (h : EnvW w) : EnvW w.drew := ⟨h.out, h.glob900⟩
theorem bytesLess_turn : ∀ x y : List UInt8, (Op.bytesLess x y || x == y) = !(Op.bytesLess y x)
  | [], [] => by simp [Op.bytesLess]
  | _ :: _, [] => by simp [Op.bytesLess]
  | [], _ :: _ => by simp [Op.bytesLess]
  | a :: x, b :: y => by
    have ih := bytesLess_turn x y
    rw [Op.bytesLess, Op.bytesLess]
    rcases Nat.lt_trichotomy a.toNat b.toNat with h | h | h
    · have h1 : a < b := UInt8.lt_iff_toNat_lt.mpr h
      have h2 : ¬ b < a := fun h' => by have := UInt8.lt_iff_toNat_lt.mp h'; omega
      have h3 : (b == a) = false := by simp; intro h'; subst h'; omega
      simp [h1, h2, h3]
    · have h0 : a = b := UInt8.toNat_inj.mp h
      subst h0
      have h1 : ¬ a < a := fun h' => by have := UInt8.lt_iff_toNat_lt.mp h'; omega
      simp only [h1, decide_false, Bool.false_or, BEq.rfl, Bool.true_and, List.cons_beq_cons]
      exact ih
    · have h1 : b < a := UInt8.lt_iff_toNat_lt.mpr h
      have h2 : ¬ a < b := fun h' => by have := UInt8.lt_iff_toNat_lt.mp h'; omega
      have h3 : (a == b) = false := by simp; intro h'; subst h'; omega
      simp [h1, h2, h3]
theorem str_leq (t : TypeId) (a b : ByteArray) : binOp .leq t (.string a) (.string b) = pure (.bool !(Op.bytesLess b.toList a.toList)) := by
  rw [← bytesLess_turn]; simp [binOp, Op.stringOp]
theorem str_gtr (t : TypeId) (a b : ByteArray) : binOp .gtr t (.string a) (.string b) = pure (.bool (Op.bytesLess b.toList a.toList)) := by
  rw [show Op.bytesLess b.toList a.toList = !(!(Op.bytesLess b.toList a.toList)) by simp, ← bytesLess_turn]; simp [binOp, Op.stringOp]
theorem str_geq (t : TypeId) (a b : ByteArray) : binOp .geq t (.string a) (.string b) = pure (.bool !(Op.bytesLess a.toList b.toList)) := by simp [binOp, Op.stringOp]
attribute [go_sem high] str_leq str_gtr str_geq
theorem wrap64_mod256 (x : Int) : wrap64 (x % 256) = x % 256 := by
  have h0 := Int.emod_nonneg x (show (256 : Int) ≠ 0 by decide)
  have h1 := Int.emod_lt_of_pos x (show (0 : Int) < 256 by decide)
  unfold wrap64
  omega
attribute [go_sem high] wrap64_mod256
end Go.Proofs.YthplhhodljpdcaaDoorM
end

section
set_option linter.unusedVariables false
set_option linter.unusedSimpArgs false
namespace Go.Proofs.YthplhhodljpdcaaDoorM
open Go.RowKit Go.Proofs.YthplhhodljpdcaaDoorW.PrintWords
section
variable {d : Kd Int} {e base : Nat} {W : World} {ok ok' : Nat → Prop} {v : Value} {xs : List Int}
end
section
variable {P : Program} {ops : Array Oper} {rest : List Oper} {o o2 : Oper} {a : Act} {Q : Exit → Act → World → Prop}
end
end Go.Proofs.YthplhhodljpdcaaDoorM
end

section
set_option linter.unusedVariables false
set_option linter.unusedSimpArgs false
namespace Go.Proofs.YthplhhodljpdcaaDoorM
open Go.RowKit Go.Maps Go.Proofs.YthplhhodljpdcaaDoorW.PrintWords
structure EK (α : Type) where
  enc : α → Value
  den : α → DataW Unit
  R : Value → Option (DataW Unit × List MemPlace)
  R_enc : ∀ x, R (enc x) = some (den x, [])
  R_inv : ∀ v x ps, R v = some (den x, ps) → v = enc x
structure KK (P : Program) (k : TypeId) (κ : Type) where
  enc : κ → Value
  lit : κ → Lit
  inj : ∀ a b, lit a = lit b → a = b
  isKey : ∀ a, WideAt.IsKeyLit (lit a)
  keyed : Keyed P k
  ok : κ → Prop
  key : ∀ a, ok a → keyOf P k (enc a) = some (lit a)
section
variable {P : Program} {k : TypeId} {κ α : Type} (X : KK P k κ) (Y : EK α)
def den (m : List (κ × α)) : DataW Unit := m.foldl (fun D p => D.put (X.lit p.1) (Y.den p.2)) (.map [])
def MapAt (W : World) (g : Nat) (m : List (κ × α)) : Prop := W.ownsMap P k Y.R g m.length (den X Y m)
variable {X Y} {W W1 w1 : World} {g : Nat} {m : List (κ × α)}
theorem MapAt.lt (h : MapAt X Y W g m) : g < W.heap.size := World.ownsMap.lt h
theorem MapAt.obj (h : MapAt X Y W g m) : ∃ es c, W.heap[g]? = some (.map es c) := by
  obtain ⟨es, c, hb, _⟩ := h
  exact ⟨es, c, hb⟩
theorem MapAt.move (h : MapAt X Y W g m) (hm : W1.heap[g]? = W.heap[g]?) : MapAt X Y W1 g m := by
  obtain ⟨es, c, hb, hr⟩ := h
  exact ⟨es, c, hm.trans hb, hr⟩
theorem MapAt.alloc (h : MapAt X Y W g m) (o : Obj) : MapAt X Y (W.alloc o) g m := World.ownsMap.alloc h o
theorem MapAt.drew (h : MapAt X Y W g m) : MapAt X Y W.drew g m := h
theorem MapAt.drewN (h : MapAt X Y W g m) (n : Nat) : MapAt X Y (W.drewN n) g m := h
theorem MapAt.below (h : MapAt X Y W g m) (hb : Below W.heap.size W W1) : MapAt X Y W1 g m := h.move (hb.block g h.lt)
theorem MapAt.at_ {W0 : World} (hq : W = W0) (h : MapAt X Y W g m) : MapAt X Y W0 g m := hq ▸ h
theorem MapAt.grown {v : Value} {e : Nat} (h : MapAt X Y W g m) (hty : ∀ q, v.ownBlock = some q → ∃ cells, W.heap[q]? = some (.cells cells e (0, 0))) (hg : W.grownBy W1 v.ownBlock) : MapAt X Y W1 g m := by
  refine h.move (hg.block g h.lt ?_)
  intro he
  obtain ⟨cells, hc⟩ := hty g he.symm
  obtain ⟨es, c, hm⟩ := h.obj
  rw [hm] at hc
  cases hc
end
section
variable {P : Program} {ops : Array Oper} {rest : List Oper} {o : Oper} {a : Act} {Q : Exit → Act → World → Prop} {W : World} {k : TypeId} {κ α : Type}
end
end Go.Proofs.YthplhhodljpdcaaDoorM
end
