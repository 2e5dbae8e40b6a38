/- Texts of Trb, put together by program. -/
import Derived.Test.YtjnmcgeahomkeaaDoorMTrb2
import Derived.Test.YtjnmcgeahomkeaaDoorMTrb3
import Derived.Test.YtjnmcgeahomkeaaDoorMTrb4
import Derived.Test.YtjnmcgeahomkeaaDoorMTrb7
import Derived.Test.YtjnmcgeahomkeaaDoorMTrb5
import Derived.Test.YtjnmcgeahomkeaaDoorMTrb8

section
namespace Go.Proofs.YtjnmcgeahomkeaaDoor.P
open Go.RowKit Go.Proofs.YtjnmcgeahomkeaaDoorW.PrintWords Go.Proofs.YtjnmcgeahomkeaaDoorW.PrintLast Go.Proofs.YtjnmcgeahomkeaaDoorW.PrintMore Go.Proofs.YtjnmcgeahomkeaaDoorM
attribute [local go_sem] max2_int min2_int max_two min_two max_three min_three max_four min_four
set_option linter.unusedVariables false
set_option linter.unusedSimpArgs false
set_option maxHeartbeats 8000000
set_option maxRecDepth 100000
def spec_PutEntry.f (k : Nat) (l0 : List (S29)) (a1_0 : ByteArray) (a1_1 : Int) (a1_2 : ByteArray) (a1_3 : Bool) : Option ((List (S29)) × Bool) := (spec_TreeOk.f k l0).bind fun t554 => (if t554 = true then ((spec_l10Put.f k l0 a1_0 a1_1 a1_2 a1_3).bind fun bt555 => (some (bt555.1, bt555.2))) else (some ((([] : List (S29))), false)))
theorem spec_PutEntry.calls (k : Nat) (A0 : Option Addr) (c0 : Nat) (l0 : List (S29)) (a1_0 : ByteArray) (a1_1 : Int) (a1_2 : ByteArray) (a1_3 : Bool) (r1 : List (S29)) (r2 : Bool) (w : World) (hr0 : Kd.C k29 w A0 l0.length l0) (hc0 : l0.length ≤ c0) (h : spec_PutEntry.f k l0 a1_0 a1_1 a1_2 a1_3 = some (r1, r2)) :
 Calls Tryd.prog 17 #[.slice A0 l0.length c0, .agg #[.string a1_0, .int .i64 a1_1, .string a1_2, .bool a1_3]] w fun e w' => ∃ v0_ : Value, e = .returned (.tuple #[v0_, .bool r2]) ∧ Kd.R k29 29 w' w.heap.size (fun _ => True) v0_ r1 ∧ Below w.heap.size w w' := by
 have hu29 := Tryd.underlying29
 have HR0 := Aside0.mk hr0
 have HC0 := Aside0.mk hc0
 clear hr0 hc0
 have HB := Aside0.mk (Below.refl w.heap.size w)
 have H : ((spec_TreeOk.f k l0).bind fun t554 => (if t554 = true then ((spec_l10Put.f k l0 a1_0 a1_1 a1_2 a1_3).bind fun bt555 => (some (bt555.1, bt555.2))) else (some ((([] : List (S29))), false)))) = some (r1, r2) := h
 clear h
 replace H := Option.bind_eq_some_iff.mp H
 obtain ⟨t554, A30, H⟩ := H
 have A3 := Aside0.mk A30
 clear A30
 by_cases c4 : t554 = true
 {
 subst c4
 rw [if_pos rfl] at H
 replace H := Option.bind_eq_some_iff.mp H
 obtain ⟨⟨t555, t558⟩, A50, H⟩ := H
 have A5 := Aside0.mk A50
 clear A50
 simp only [Option.some.injEq, Prod.mk.injEq] at H
 obtain ⟨rfl, rfl⟩ := H
 go_enter Tryd.func17, Tryd.ntmps17
 go_wp2_with (first | ((with_reducible refine gate_dst (N := 3) rfl ?_); refine bE_ 3 #[.string a1_0, .int .i64 a1_1, .string a1_2, .bool a1_3] 29 ?_; intro gb553 hg w6 hbox hb; have BK553 := Aside0.mk (hbox); have GW553 := Aside0.mk ((ge_ hg (bw_ HB))); have GE553 := Aside0.mk ((ge_ hg (bw_ HB))); replace HB := Aside0.mk (below_step (bw_ HB) hb); clear hb hbox hg) | ((with_reducible refine gate_callee (f := 8) rfl ?_); refine gL_ (some 7) Tryd.func8 #[.slice A0 l0.length c0] ?_; (with_reducible refine (spec_TreeOk.calls k _ _ l0 true _ ?side1 ?side2 A3.out).mono ?_); (case side1 => exact cS_ HR0 HB); (case side2 => exact HC0.out); rintro e w7 ⟨rfl, hb⟩; refine ⟨_, rfl, ?_⟩; replace BK553 := Aside0.mk (blk_below (bk_ BK553) hb); replace HB := Aside0.mk (below_step (bw1_ HB GE553) hb); clear hb; obtain ⟨hcz8_0, hcz8_1, hcz8_2, hcz8_3, hfz8_0, hfz8_1, hfz8_2, hfz8_3⟩ := zc4_ BK553) | ((with_reducible refine gate_callee (f := 41) rfl ?_); refine gL_ (some 12) Tryd.func41 #[.slice A0 l0.length c0, .agg #[.string a1_0, .int .i64 a1_1, .string a1_2, .bool a1_3]] ?_; (with_reducible refine (spec_l10Put.calls k _ _ l0 a1_0 a1_1 a1_2 a1_3 t555 t558 _ ?side1 ?side2 A5.out).mono ?_); (case side1 => exact cS_ HR0 HB); (case side2 => exact HC0.out); rintro e w9 ⟨v556, rfl, ho0, hb⟩; refine ⟨_, rfl, ?_⟩; have HO557 := Aside0.mk (Kd.R_lower (Kd.R_newB ho0 (g := gb553) (o := .cells #[.string a1_0, .int .i64 a1_1, .string a1_2, .bool a1_3] 29 (0, 0)) (bk_ BK553)) (below_size (bw1_ HB GE553))); replace BK553 := Aside0.mk (blk_below (bk_ BK553) hb); replace HB := Aside0.mk (below_step (bw1_ HB GE553) hb); clear hb; (try clear ho0)))
 go_ret2
 exact ⟨_, eR_, by (with_reducible repeat (first | apply Kd.R_alloc | apply Kd.R_drewN | apply Kd.R_drew)); exact Kd.R_mono HO557.out (fun _ hk => trivial), bw1_ HB GE553⟩}
 {
 replace c4 := Bool.eq_false_iff.mpr c4
 subst c4
 rw [if_neg (show ¬ (false = true) by decide)] at H
 obtain ⟨y559, hy559⟩ : ∃ y_ : List (S29), y_ = (([] : List (S29))) := ⟨_, rfl⟩
 replace H : (some (y559, false)) = some (r1, r2) := rH_ hy559 H
 have Ny559 := Aside0.mk hy559
 clear hy559
 simp only [Option.some.injEq, Prod.mk.injEq] at H
 obtain ⟨rfl, rfl⟩ := H
 go_enter Tryd.func17, Tryd.ntmps17
 go_wp2_with (first | ((with_reducible refine gate_dst (N := 3) rfl ?_); refine bE_ 3 #[.string a1_0, .int .i64 a1_1, .string a1_2, .bool a1_3] 29 ?_; intro gb553 hg w10 hbox hb; have BK553 := Aside0.mk (hbox); have GW553 := Aside0.mk ((ge_ hg (bw_ HB))); have GE553 := Aside0.mk ((ge_ hg (bw_ HB))); replace HB := Aside0.mk (below_step (bw_ HB) hb); clear hb hbox hg) | ((with_reducible refine gate_callee (f := 8) rfl ?_); refine gL_ (some 7) Tryd.func8 #[.slice A0 l0.length c0] ?_; (with_reducible refine (spec_TreeOk.calls k _ _ l0 false _ ?side1 ?side2 A3.out).mono ?_); (case side1 => exact cS_ HR0 HB); (case side2 => exact HC0.out); rintro e w11 ⟨rfl, hb⟩; refine ⟨_, rfl, ?_⟩; replace BK553 := Aside0.mk (blk_below (bk_ BK553) hb); replace HB := Aside0.mk (below_step (bw1_ HB GE553) hb); clear hb) | ((with_reducible refine gate_dst (N := 9) rfl ?_); refine Kd.R_lit k29 _ 29 ?hg (N := 9) ?hd (xs := ([] : List (S29))) (inner := []) (ok := fun _ => True) (okp := fun _ => True) ?hr ?hp (fun _ hk => hk) trivial (Below.refl _ _) (Nat.le_refl _) (by simp) ?_; (case hd => rfl); (case hg => rfl); (case hr => first | (go_simp; done) | (go_simp; rfl)); (case hp => exact (Reps.none _ _)); intro v560 w12 ho13 hb hg_ hnew_; clear hg_ hnew_; (first | rw [← Ny559.out] at ho13 | (simp only [Int.reduceToNat] at ho13; rw [← Ny559.out] at ho13)); have HO561 := Aside0.mk (Kd.R_lower (Kd.R_newB ho13 (g := gb553) (o := .cells #[.string a1_0, .int .i64 a1_1, .string a1_2, .bool a1_3] 29 (0, 0)) (bk_ BK553)) (below_size (bw1_ HB GE553))); replace BK553 := Aside0.mk (blk_below (bk_ BK553) hb); replace HB := Aside0.mk (below_step (bw1_ HB GE553) hb); clear hb ho13))
 go_ret2
 exact ⟨_, eR_, by (with_reducible repeat (first | apply Kd.R_alloc | apply Kd.R_drewN | apply Kd.R_drew)); exact Kd.R_mono HO561.out (fun _ hk => trivial), bw1_ HB GE553⟩}
def impl_CutEntry.cutB (p : ByteArray) (e : S29) : Bool := (e.f0.toList == p.toList) || Lib.hasPrefix e.f0.data.toList (p ++ (⟨#[47]⟩ : ByteArray)).data.toList
set_option maxHeartbeats 400000 in
theorem impl_CutEntry.cl (x : S29) (p : ByteArray) (g : Nat) (w : World) (hp : p.size ≤ 1048576) (hb : w.cell? ⟨g, 0, none⟩ = some (.string p)) (hg : g < w.heap.size) :
 Calls Tryd.prog 43 #[.agg #[.string x.f0, .int .i64 x.f1, .string x.f2, .bool x.f3], .pointer (some ⟨g, 0, none⟩)] w fun e w' => e = .returned (.bool (impl_CutEntry.cutB p x)) ∧ Below w.heap.size w w' := by
 have hu29 := Tryd.underlying29
 have hsz : p.size + 1 ≤ 9223372036854775807 := by omega
 have h1 : (⟨#[47]⟩ : ByteArray).size = 1 := rfl
 cases hc : (x.f0.toList == p.toList) with
 | true =>
  go_enter Tryd.func43, Tryd.ntmps43
  go_wp2
  go_ret
  exact ⟨by rw [impl_CutEntry.cutB, hc]; rfl, by repeat (first | (with_reducible first | exact Below.refl _ _ | apply below_alloc | apply pw_below_drewN | apply below_drew1) | exact Below.refl _ _)⟩
 | false =>
  go_enter Tryd.func43, Tryd.ntmps43
  go_wp2_with (go_at_call 19; refine (Tryd.strings_HasPrefix _ _ _).mono ?_; rintro e w8 ⟨rfl, rfl⟩)
  go_ret
  exact ⟨by rw [impl_CutEntry.cutB, hc]; rfl, by repeat (first | (with_reducible first | exact Below.refl _ _ | apply below_alloc | apply pw_below_drewN | apply below_drew1) | exact Below.refl _ _)⟩
def impl_CutEntry.first (q : S29 → Bool) : List S29 → Int → Int
 | [], _ => -1
 | e :: t, i => if q e = true then i else impl_CutEntry.first q t (i + 1)
theorem impl_CutEntry.fi_end (q : S29 → Bool) (l : List S29) (i : Nat) (h : l.length ≤ i) : impl_CutEntry.first q (l.drop i) i = -1 := by
 rw [List.drop_eq_nil_of_le h]; rfl
theorem impl_CutEntry.fi_yes (q : S29 → Bool) (l : List S29) (i : Nat) (h : i < l.length) (hc : q (rd_T29 l i) = true) : impl_CutEntry.first q (l.drop i) i = i := by
 rw [List.drop_eq_getElem_cons h, impl_CutEntry.first, if_pos]
 simpa [rd_T29, List.getD_eq_getElem?_getD, List.getElem?_eq_getElem h] using hc
theorem impl_CutEntry.fi_no (q : S29 → Bool) (l : List S29) (i : Nat) (h : i < l.length) (hc : q (rd_T29 l i) = false) : impl_CutEntry.first q (l.drop i) i = impl_CutEntry.first q (l.drop (i + 1)) ((i + 1 : Nat) : Int) := by
 rw [List.drop_eq_getElem_cons h, impl_CutEntry.first, if_neg]
 {
 rfl}
 {
 simpa [rd_T29, List.getD_eq_getElem?_getD, List.getElem?_eq_getElem h] using hc}
set_option maxHeartbeats 1000000 in
theorem impl_CutEntry.indexFunc (A0 : Option Addr) (c0 : Nat) (l0 : List S29) (p : ByteArray) (g : Nat) (w : World) (hp : p.size ≤ 1048576) (hr0 : Kd.C k29 w A0 l0.length l0) (hc0 : l0.length ≤ c0) (hb : w.cell? ⟨g, 0, none⟩ = some (.string p)) (hg : g < w.heap.size) :
 Calls Tryd.prog 38 #[.slice A0 l0.length c0, .func (.func 43) #[] #[.pointer (some ⟨g, 0, none⟩)]] w fun e w' => e = .returned (.int .i64 (impl_CutEntry.first (impl_CutEntry.cutB p) l0 0)) ∧ Below w.heap.size w w' := by
 have hu29 := Tryd.underlying29
 have HR0 := Aside0.mk hr0
 have HC0 := Aside0.mk hc0
 have HX := Aside0.mk (And.intro hb hg)
 have hl := hr0.2.1
 clear hr0 hc0 hb hg
 have HB := Aside0.mk (Below.refl w.heap.size w)
 go_enter Tryd.func38, Tryd.ntmps38
 go_wp2
 go_loopw [8] (fun v8 w' => ∃ i : Nat, v8 = .int .i64 i ∧ i ≤ l0.length ∧ Aside0 (impl_CutEntry.first (impl_CutEntry.cutB p) l0 0 = impl_CutEntry.first (impl_CutEntry.cutB p) (l0.drop i) i) ∧ Aside0 (Below w.heap.size w w')) (fun v8 _ => l0.length - (intOf v8).toNat)
 case atStart => exact ⟨0, rfl, Nat.zero_le _, ⟨rfl⟩, ⟨Below.refl _ _⟩⟩
 case round =>
  clear HB
  obtain ⟨i, rfl, hi, HF, HB⟩ := hrel
  by_cases hlt : i < l0.length
  {
  have p1 : 0 ≤ (i : Int) := by omega
  have q1 : (i : Int) < (l0.length : Int) := by omega
  obtain ⟨ad, e1, hx_0, hx_1, hx_2, hx_3⟩ := at_T29 HR0.out i p1 q1
  cases e1
  replace hx_0 := hX_ HB hx_0
  replace hx_1 := hX_ HB hx_1
  replace hx_2 := hX_ HB hx_2
  replace hx_3 := hX_ HB hx_3
  simp only [Int.toNat_natCast] at hx_0 hx_1 hx_2 hx_3
  have hbx := (HB.out.cell (World.block_lt_of_cell? w _ HX.out.1)).trans HX.out.1
  have hs := HB.out.size
  have c1 : decide ((i : Int) < (l0.length : Int)) = true := by simpa using hlt
  have c2 : decide ((i : Nat) < l0.length) = true := by simpa using hlt
  cases hcc : impl_CutEntry.cutB p (rd_T29 l0 i) with
  | true =>
   have HCC := Aside0.mk hcc
   clear hcc
   go_wp2_with (go_at_call 43; refine (impl_CutEntry.cl (rd_T29 l0 i) p g _ hp hbx (by have := HX.out.2; omega)).mono ?_; rintro e w8 ⟨rfl, hb8⟩; rw [HCC.out])
   go_ret
   refine ⟨?_, below_step HB.out hb8⟩
   rw [HF.out, impl_CutEntry.fi_yes _ l0 i hlt HCC.out]
   rfl
  | false =>
   have HCC := Aside0.mk hcc
   clear hcc
   have hw : wrap64 ((i : Int) + 1) = ((i + 1 : Nat) : Int) := by unfold wrap64; omega
   go_wp2_with (go_at_call 43; refine (impl_CutEntry.cl (rd_T29 l0 i) p g _ hp hbx (by have := HX.out.2; omega)).mono ?_; rintro e w8 ⟨rfl, hb8⟩; rw [HCC.out])
   go_roundw
   case rel => exact ⟨i + 1, by first | rfl | (rw [hw]) | (congr 1), by omega, ⟨by rw [HF.out, impl_CutEntry.fi_no _ l0 i hlt HCC.out]⟩, ⟨below_step HB.out hb8⟩⟩
   case measure => simp [intOf]; omega}
  {
  have c1 : decide ((i : Int) < (l0.length : Int)) = false := by simpa using hlt
  have c2 : decide ((i : Nat) < l0.length) = false := by simpa using hlt
  go_wp2
  go_ret
  refine ⟨?_, HB.out⟩
  rw [HF.out, impl_CutEntry.fi_end _ l0 i (by omega)]
  rfl}
theorem impl_CutEntry.run_clear_cells {P : Program} (w : World) (t e ty : TypeId) (z : Value) (ht : P.underlying t = some (.slice e)) (hv : ∀ w, (zeroValue e).run P w = .ok z w) (b o n c : Nat) (hn : 0 < n) (h1 : ∀ q ∈ (Builtin.zeroCells z.cells n).toList, q.oneCell' = true)
 (hc : ∀ j, j < (Builtin.zeroCells z.cells n).toList.length → (w.cell? ⟨b, o + j, none⟩).isSome = true) (hf : ∀ j, j < (Builtin.zeroCells z.cells n).toList.length → w.frozen? ⟨b, o + j, none⟩ = false) :
 (Builtin.clear_ #[t] ty #[.slice (some ⟨b, o, none⟩) n c]).run P w = .ok (.tuple #[]) (w.setCells b o (Builtin.zeroCells z.cells n).toList) := by
 have hst := run_storeCells_cells (P := P) b o (Builtin.zeroCells z.cells n).toList 0 w (by simpa using hc) (by simpa using hf) h1
 simp only [Nat.add_zero] at hst
 obtain ⟨m, rfl⟩ : ∃ m, n = m + 1 := ⟨n - 1, by omega⟩
 simp [Builtin.clear_, run_underlying ht, hv, hst]
theorem impl_CutEntry.R_cleared {α : Type} {d : Kd α} {e g n cap : Nat} {W : World} {base : Nat} {ok : Nat → Prop} {ys : List α} (h : d.R e W base ok (.slice (some ⟨g, 0, none⟩) n cap) ys) (i : Nat) (hi : i ≤ n) (seg : List Value) (hs : i * d.sz + seg.length ≤ n * d.sz) :
 d.R e (W.setCells g (i * d.sz) seg) base ok (.slice (some ⟨g, 0, none⟩) i cap) (ys.take i) ∧ W.grownBy (W.setCells g (i * d.sz) seg) (some g) := by
 obtain ⟨hn, hnc, _⟩ := Kd.R_reads' h
 have h2 := Kd.R_take h (m := i) (by omega)
 obtain ⟨s1, s2, s3, s4⟩ := setCells_same g seg (i * d.sz) W
 have hfar : ∀ k, k ≠ g → (W.setCells g (i * d.sz) seg).heap[k]? = W.heap[k]? := fun k hk => setCells_far seg _ k hk
 refine ⟨?_, ⟨s1, s2, s3, by rw [s4]; exact Nat.le_refl _, fun k _ hk => hfar k (fun he => hk (by rw [he]))⟩⟩
 obtain ⟨hok, inner, ⟨ho1, ho2⟩, hr⟩ := h2
 rcases ho2 with ⟨hv, _⟩ | ⟨g', cap', cur, hv, hb, hh, hnc', hcm, hcs, ht⟩
 {
 cases hv}
 injection hv with ha _ hc
 injection ha with ha
 injection ha with hg
 subst hg; subst hc
 have hfit : i * d.sz + seg.length ≤ cur.size := by
  have : n * d.sz ≤ cap * d.sz := Nat.mul_le_mul_right _ hnc
  omega
 obtain ⟨cur', h3, h4, h5⟩ := setCells_row seg (i * d.sz) W cur hh hfit
 have hlen : (ys.take i).length = i := by rw [List.length_take]; omega
 refine ⟨hok, inner, ⟨ho1, .inr ⟨g, cap, cur', by rw [hlen], hb, h3, hnc', hcm, by rw [h4, hcs], ?_⟩⟩, hr.imp_ (fun _ _ hp => d.M_move (fun k hk => hfar k (fun he => hk.2 (by rw [he]; simp [Value.ownBlock]))) hp)⟩
 rw [h5, ← ht, hlen, List.append_assoc, List.take_append_of_le_length (by rw [List.length_take, Array.length_toList]; omega), List.take_take, Nat.min_self]
theorem impl_CutEntry.R_cells {α : Type} {d : Kd α} {e g n cap : Nat} {W : World} {base : Nat} {ok : Nat → Prop} {ys : List α} (h : d.R e W base ok (.slice (some ⟨g, 0, none⟩) n cap) ys) :
 (∀ q, q < cap * d.sz → (W.cell? ⟨g, q, none⟩).isSome = true) ∧ ∀ q, W.frozen? ⟨g, q, none⟩ = false := by
 obtain ⟨hok, inner, ⟨ho1, ho2⟩, hr⟩ := h
 rcases ho2 with ⟨hv, _⟩ | ⟨g', cap', cur, hv, hb, hh, hnc', hcm, hcs, ht⟩
 {
 cases hv}
 injection hv with ha _ hc
 injection ha with ha
 injection ha with hg
 subst hg; subst hc
 refine ⟨fun q hq => ?_, fun q => blk_frozen hh _⟩
 rw [cell_of_row W g _ cur e (0, 0) hh, Array.getElem?_eq_getElem (by omega)]
 rfl
theorem impl_CutEntry.below_grownBy {w0 w w1 : World} {g : Nat} (h : Below w0.heap.size w0 w) (hg : w0.heap.size ≤ g) (hw : w.grownBy w1 (some g)) : Below w0.heap.size w0 w1 :=
  h.trans ⟨hw.os, hw.tape, hw.output, hw.size, fun k hk => by
    rcases Nat.lt_or_ge k w.heap.size with hlt | hge
    · exact hw.block k hlt (fun he => by injection he with he; omega)
    · exact absurd (Nat.lt_of_lt_of_le hk h.size) (by omega)⟩
def impl_CutEntry.gd (t : List S29) (i : Nat) : S29 := t.getD i z29
theorem impl_CutEntry.gd_get (t : List S29) (i : Nat) (h : i < t.length) : impl_CutEntry.gd t i = t[i] := by simp [impl_CutEntry.gd, List.getD_eq_getElem?_getD, List.getElem?_eq_getElem h]
theorem impl_CutEntry.zeros (n : Nat) : (Builtin.zeroCells (Value.agg #[(.string ⟨#[]⟩), (.int .i64 0), (.string ⟨#[]⟩), (.bool false)]).cells n).toList.length = n * 4 := by
 simp [Builtin.zeroCells, Value.cells]
theorem impl_CutEntry.zeros_one (n : Nat) : ∀ q ∈ (Builtin.zeroCells (Value.agg #[(.string ⟨#[]⟩), (.int .i64 0), (.string ⟨#[]⟩), (.bool false)]).cells n).toList, q.oneCell' = true := by
 intro q hq
 simp only [Builtin.zeroCells, Value.cells, Array.toList_map, List.mem_map, Array.mem_toList_iff, Array.mem_range] at hq
 obtain ⟨i, _, rfl⟩ := hq
 have h4 : i % (#[(Value.string ⟨#[]⟩), (Value.int .i64 0), (Value.string ⟨#[]⟩), (Value.bool false)] : Array Value).size < 4 := Nat.mod_lt _ (by decide)
 generalize i % (#[(Value.string ⟨#[]⟩), (Value.int .i64 0), (Value.string ⟨#[]⟩), (Value.bool false)] : Array Value).size = j at h4 ⊢
 match j, h4 with
 | 0, _ => rfl
 | 1, _ => rfl
 | 2, _ => rfl
 | 3, _ => rfl
theorem impl_CutEntry.zv (w : World) : (zeroValue 29).run Tryd.prog w = .ok (.agg #[(.string ⟨#[]⟩), (.int .i64 0), (.string ⟨#[]⟩), (.bool false)]) w := by
 have h := info29
 obtain ⟨i0, hi, hz⟩ := Option.map_eq_some_iff.1 h
 simp only [Prod.mk.injEq] at hz
 simp [zeroValue, typeInfo, hi, hz.1]
theorem impl_CutEntry.first_tells (q : S29 → Bool) : ∀ (l : List S29) (i : Nat), (impl_CutEntry.first q l (i : Int) = -1 ∧ l.filter (fun e => !q e) = l) ∨ ∃ j, j < l.length ∧ impl_CutEntry.first q l (i : Int) = ((i + j : Nat) : Int) ∧ (l.take (j + 1)).filter (fun e => !q e) = l.take j
 | [], i => .inl ⟨rfl, rfl⟩
 | e :: l, i => by
  rw [impl_CutEntry.first]
  cases h : q e with
  | true => exact .inr ⟨0, by simp, by simp, by simp [h]⟩
  | false =>
   have hi : ((i : Int) + 1) = ((i + 1 : Nat) : Int) := by omega
   rw [if_neg (by decide), hi]
   rcases impl_CutEntry.first_tells q l (i + 1) with ⟨h1, h2⟩ | ⟨j, h1, h2, h3⟩
   {
   exact .inl ⟨h1, by rw [List.filter_cons, h]; simp [h2]⟩}
   {
   refine .inr ⟨j + 1, by simp; omega, by rw [h2]; omega, ?_⟩
   rw [List.take_succ_cons, List.filter_cons, h, List.take_succ_cons]
   simp [h3]}
set_option maxHeartbeats 2000000 in
theorem impl_CutEntry.deleteFunc (v : Value) (xs : List S29) (p : ByteArray) (gq : Nat) (w0 w : World) (hp : p.size ≤ 1048576) (hB : Below w0.heap.size w0 w) (hq : w0.cell? ⟨gq, 0, none⟩ = some (.string p)) (hgq : gq < w0.heap.size)
 (hO : Kd.R k29 29 w w0.heap.size (fun _ => True) v xs) :
 Calls Tryd.prog 42 #[v, .func (.func 43) #[] #[.pointer (some ⟨gq, 0, none⟩)]] w fun e w' => ∃ v', e = .returned v' ∧ Kd.R k29 29 w' w0.heap.size (fun _ => True) v' (xs.filter (fun e => !impl_CutEntry.cutB p e)) ∧ Below w0.heap.size w0 w' := by
 have hu29 := Tryd.underlying29
 obtain ⟨A, c, rfl, hc, hC⟩ := Kd.R_reads hO
 have hl := hC.2.1
 have hqw : w.cell? ⟨gq, 0, none⟩ = some (.string p) := (hB.cell (World.block_lt_of_cell? w0 _ hq)).trans hq
 have hgw : gq < w.heap.size := by have := hB.size; omega
 rcases impl_CutEntry.first_tells (impl_CutEntry.cutB p) xs 0 with ⟨h1, h2⟩ | ⟨j0, hj0, h1, h2⟩
 {
 have HO := Aside0.mk hO
 have HB := Aside0.mk hB
 have H1 := Aside0.mk h1
 have H2 := Aside0.mk h2
 have HQ := Aside0.mk (And.intro hqw hgw)
 have HC := Aside0.mk (And.intro hC hc)
 clear hO hB h1 h2 hqw hgw hq hgq hC hc
 go_enter Tryd.func42, Tryd.ntmps42
 go_wp2_with (go_at_call 38; refine (impl_CutEntry.indexFunc A c xs p gq _ hp HC.out.1 HC.out.2 HQ.out.1 HQ.out.2).mono ?_; rintro e w8 ⟨rfl, hb8⟩; rw [show (0 : Int) = ((0 : Nat) : Int) from rfl, H1.out])
 go_ret
 exact ⟨_, rfl, by rw [H2.out]; exact Kd.R_below HO.out hb8, below_step HB.out hb8⟩}
 {
 obtain ⟨g, cap_, hv, hbg, hgl, hcells⟩ := Kd.R_form hO (by omega)
 injection hv with hA _ hc2
 subst hA; subst hc2
 rw [show 0 + j0 = j0 by omega] at h1
 have HO := Aside0.mk hO
 have HB := Aside0.mk hB
 have H1 := Aside0.mk h1
 have H2 := Aside0.mk h2
 have HG := Aside0.mk hbg
 have HQ := Aside0.mk (And.intro hq (And.intro hqw (And.intro hgw hgq)))
 have HC := Aside0.mk (And.intro hC hc)
 have hw0 : wrap64 ((j0 : Int) + 1) = ((j0 + 1 : Nat) : Int) := by unfold wrap64; omega
 clear hO hB h1 h2 hqw hgw hq hgq hC hc hcells hgl hbg
 have hc : xs.length ≤ c := HC.out.2
 have cj : ((j0 : Int) == -1) = false := by rw [beq_eq_false_iff_ne]; omega
 go_enter Tryd.func42, Tryd.ntmps42
 go_wp2_with (go_at_call 38; refine (impl_CutEntry.indexFunc _ c xs p gq _ hp HC.out.1 HC.out.2 HQ.out.2.1 HQ.out.2.2.1).mono ?_; rintro e w8 ⟨rfl, hb8⟩; rw [show (0 : Int) = ((0 : Nat) : Int) from rfl, H1.out])
 have HO1 := Aside0.mk (Kd.R_below HO.out hb8)
 have HB1 := Aside0.mk (below_step HB.out hb8)
 clear hb8 HO HB
 go_loopw [5, 6] (fun v5 v6 w' => ∃ (i j : Nat) (ys : List S29), v5 = .int .i64 i ∧ v6 = .int .i64 j ∧ i < j ∧ j ≤ xs.length ∧ Aside0 (ys.length = xs.length ∧ ys.take i = (xs.take j).filter (fun e => !impl_CutEntry.cutB p e) ∧ ys.drop j = xs.drop j) ∧ Aside0 (Kd.R k29 29 w' w0.heap.size (fun _ => True) (.slice (some ⟨g, 0, none⟩) xs.length c) ys) ∧ Aside0 (Below w0.heap.size w0 w')) (fun _ v6 _ => xs.length - (intOf v6).toNat)
 case atStart => exact ⟨j0, j0 + 1, xs, rfl, by first | rfl | (rw [hw0]) | (congr 1), by omega, by omega, ⟨rfl, by rw [H2.out], rfl⟩, ⟨HO1.out⟩, ⟨HB1.out⟩⟩
 case round =>
  clear HO1 HB1 HC
  obtain ⟨i, j, ys, rfl, rfl, hij, hj, HY, HO, HB⟩ := hrel
  have hyl := HY.out.1
  by_cases hlt : j < xs.length
  {
  obtain ⟨ce, hcl, hM, hcc, hfr⟩ := Kd.R_elem HO.out z29 (j : Int) (by omega) (by omega)
  obtain rfl := k29_openM hM
  have hx_0 : wr.cell? ⟨g, (j : Int).toNat * 4, none⟩ = some (.string (rd_T29 ys j).f0) := hcc 0 _ rfl
  have hx_1 : wr.cell? ⟨g, (j : Int).toNat * 4 + 1, none⟩ = some (.int .i64 (rd_T29 ys j).f1) := hcc 1 _ rfl
  have hx_2 : wr.cell? ⟨g, (j : Int).toNat * 4 + 2, none⟩ = some (.string (rd_T29 ys j).f2) := hcc 2 _ rfl
  have hx_3 : wr.cell? ⟨g, (j : Int).toNat * 4 + 3, none⟩ = some (.bool (rd_T29 ys j).f3) := hcc 3 _ rfl
  simp only [Int.toNat_natCast] at hx_0 hx_1 hx_2 hx_3
  clear hcl hM hcc hfr
  have c1 : decide ((j : Int) < (xs.length : Int)) = true := by simpa using hlt
  have c2 : decide ((j : Nat) < xs.length) = true := by simpa using hlt
  have hw1 : wrap64 ((j : Int) + 1) = ((j + 1 : Nat) : Int) := by unfold wrap64; omega
  have hw2 : wrap64 ((i : Int) + 1) = ((i + 1 : Nat) : Int) := by unfold wrap64; omega
  have hbx := (HB.out.cell (World.block_lt_of_cell? w0 _ HQ.out.1)).trans HQ.out.1
  have hs := HB.out.size
  have hgs : gq < wr.heap.size := by have := HQ.out.2.2.2; omega
  have hxy : rd_T29 ys j = impl_CutEntry.gd xs j := by
   have h3 := congrArg (fun l : List S29 => l[0]?) HY.out.2.2
   simp only [List.getElem?_drop, Nat.add_zero] at h3
   unfold rd_T29 impl_CutEntry.gd
   rw [Int.toNat_natCast, List.getD_eq_getElem?_getD, List.getD_eq_getElem?_getD, h3]
  have hdr : ys.drop (j + 1) = xs.drop (j + 1) := by
   have h3 := congrArg (List.drop 1) HY.out.2.2
   rwa [List.drop_drop, List.drop_drop] at h3
  have htk : (xs.take (j + 1)).filter (fun e => !impl_CutEntry.cutB p e) = (xs.take j).filter (fun e => !impl_CutEntry.cutB p e) ++ (if impl_CutEntry.cutB p (impl_CutEntry.gd xs j) = true then [] else [impl_CutEntry.gd xs j]) := by
   rw [List.take_succ_eq_append_getElem hlt, List.filter_append, impl_CutEntry.gd_get xs j hlt]
   cases h4 : impl_CutEntry.cutB p xs[j] <;> simp [h4]
  cases hcc : impl_CutEntry.cutB p (rd_T29 ys j) with
  | true =>
   have HCC := Aside0.mk hcc
   rw [hxy] at hcc
   rw [hcc, if_pos rfl, List.append_nil] at htk
   have HT := Aside0.mk (And.intro htk hdr)
   clear hcc htk hdr hxy
   go_wp2_with (go_at_call 43; refine (impl_CutEntry.cl (rd_T29 ys j) p gq _ hp (pw_cell_below (below_alloc (Below.refl _ _) _) hbx) (Nat.lt_of_lt_of_le hgs (below_alloc (Below.refl _ _) _).size)).mono ?_; rintro e w8 ⟨rfl, hb8⟩; rw [HCC.out])
   go_roundw
   case rel => exact ⟨i, j + 1, ys, rfl, by first | rfl | (rw [hw1]) | (congr 1), by omega, by omega, ⟨HY.out.1, by rw [HT.out.1]; exact HY.out.2.1, HT.out.2⟩, ⟨Kd.R_below (Kd.R_alloc HO.out _) hb8⟩, ⟨below_step (below_alloc HB.out _) hb8⟩⟩
   case measure => simp [intOf]; omega
  | false =>
   have HCC := Aside0.mk hcc
   rw [hxy] at hcc
   rw [hcc, if_neg (by decide)] at htk
   have HT := Aside0.mk (And.intro htk (And.intro hdr hxy))
   clear hcc htk hdr hxy
   have hil : i < ys.length := by omega
   go_wp2_with (first | (go_at_call 43; refine (impl_CutEntry.cl (rd_T29 ys j) p gq _ hp (pw_cell_below (below_alloc (Below.refl _ _) _) hbx) (Nat.lt_of_lt_of_le hgs (below_alloc (Below.refl _ _) _).size)).mono ?_; rintro e w8 ⟨rfl, hb8⟩; rw [HCC.out]; have HO8 := Aside0.mk (Kd.R_below (Kd.R_alloc HO.out (.cells #[.string (rd_T29 ys j).f0, .int .i64 (rd_T29 ys j).f1, .string (rd_T29 ys j).f2, .bool (rd_T29 ys j).f3] 29)) hb8); have HB8 := Aside0.mk (below_step (below_alloc HB.out (.cells #[.string (rd_T29 ys j).f0, .int .i64 (rd_T29 ys j).f1, .string (rd_T29 ys j).f2, .bool (rd_T29 ys j).f3] 29)) hb8); have hy_0 : w8.cell? ⟨wr.heap.size, 0, none⟩ = some (.string (rd_T29 ys j).f0) := pw_cell_below hb8 (by simp [go_sem]); have hy_1 : w8.cell? ⟨wr.heap.size, 1, none⟩ = some (.int .i64 (rd_T29 ys j).f1) := pw_cell_below hb8 (by simp [go_sem]); have hy_2 : w8.cell? ⟨wr.heap.size, 2, none⟩ = some (.string (rd_T29 ys j).f2) := pw_cell_below hb8 (by simp [go_sem]); have hy_3 : w8.cell? ⟨wr.heap.size, 3, none⟩ = some (.bool (rd_T29 ys j).f3) := pw_cell_below hb8 (by simp [go_sem]); clear hb8 hx_0 hx_1 hx_2 hx_3; obtain ⟨ce, hcl, hM, hcc, hfr⟩ := Kd.R_elem HO8.out z29 (i : Int) (by omega) (by omega); obtain rfl := k29_openM hM; have HP := Kd.R_seg HO8.out (i : Int) (by omega) (by omega) (seg := [.string (rd_T29 ys j).f0, .int .i64 (rd_T29 ys j).f1, .string (rd_T29 ys j).f2, .bool (rd_T29 ys j).f3]) (j := 0) hcl hcc (show 4 ≤ 4 from by decide) (x' := (⟨(rd_T29 ys j).f0, (rd_T29 ys j).f1, (rd_T29 ys j).f2, (rd_T29 ys j).f3⟩ : S29)) (k29_mkM _ _ _ (⟨(rd_T29 ys j).f0, (rd_T29 ys j).f1, (rd_T29 ys j).f2, (rd_T29 ys j).f3⟩ : S29)) (fun _ hk => hk); have hx_0 := hcc 0 _ rfl; have hx_1 := hcc 1 _ rfl; have hx_2 := hcc 2 _ rfl; have hx_3 := hcc 3 _ rfl; have hf_0 := hfr 0; have hf_1 := hfr 1; have hf_2 := hfr 2; have hf_3 := hfr 3; simp only [show (k29).sz = 4 from rfl, Nat.mul_one, Nat.add_zero, Int.toNat_natCast] at hx_0 hx_1 hx_2 hx_3 hf_0 hf_1 hf_2 hf_3; clear hcl hM hcc hfr) | ((with_reducible refine gate_store (t := 29) (p := 33) rfl ?_); refine store_event (t := 29) (p := 33) (v := ?vo_w13) (w1 := ((((w8.setCell ⟨g, i * 4, none⟩ (.string (rd_T29 ys j).f0)).setCell ⟨g, i * 4 + 1, none⟩ (.int .i64 (rd_T29 ys j).f1)).setCell ⟨g, i * 4 + 2, none⟩ (.string (rd_T29 ys j).f2)).setCell ⟨g, i * 4 + 3, none⟩ (.bool (rd_T29 ys j).f3))) ?hg ?ho ?hn ?hr ?_; (case ho => rfl); (case hg => rfl); (case hn => rfl); (case hr => first | (go_simp; done) | (go_simp; rfl)); intro w13 hw; have HO9 := Aside0.mk (show Kd.R k29 29 w13 w0.heap.size (fun _ => True) (.slice (some ⟨g, 0, none⟩) xs.length c) (ys.set i (rd_T29 ys j)) from (by rw [hw]; exact HP.1)); have HB9 := Aside0.mk (by rw [hw]; exact below_set (below_set (below_set (below_set HB8.out HG.out) HG.out) HG.out) HG.out : Below w0.heap.size w0 w13); clear HP HO8 HB8 hw hy_0 hy_1 hy_2 hy_3 hx_0 hx_1 hx_2 hx_3 hf_0 hf_1 hf_2 hf_3))
   go_roundw
   case rel => exact ⟨i + 1, j + 1, ys.set i (rd_T29 ys j), by first | rfl | (rw [hw2]) | (congr 1), by first | rfl | (rw [hw1]) | (congr 1), by omega, by omega, ⟨by rw [List.length_set]; exact HY.out.1, by rw [HT.out.1, HT.out.2.2, List.take_succ_eq_append_getElem (by rw [List.length_set]; exact hil), List.take_set_of_le (Nat.le_refl _), List.getElem_set_self, HY.out.2.1], by rw [List.drop_set_of_lt (by omega)]; exact HT.out.2.1⟩, ⟨HO9.out⟩, ⟨HB9.out⟩⟩
   case measure => simp [intOf]; omega}
  {
  obtain rfl : j = xs.length := by omega
  have c1 : decide ((xs.length : Int) < (xs.length : Int)) = false := by simp
  have c2 : decide (xs.length < xs.length) = false := by simp
  have hi1 : i ≤ xs.length := by omega
  have hfin : ys.take i = xs.filter (fun e => !impl_CutEntry.cutB p e) := by rw [HY.out.2.1, List.take_length]
  have hzl := impl_CutEntry.zeros (xs.length - i)
  obtain ⟨hcc, hff⟩ := impl_CutEntry.R_cells HO.out
  have hR := impl_CutEntry.R_cleared HO.out i hi1 (Builtin.zeroCells (Value.agg #[(.string ⟨#[]⟩), (.int .i64 0), (.string ⟨#[]⟩), (.bool false)]).cells (xs.length - i)).toList (by rw [hzl]; show i * 4 + _ ≤ xs.length * 4; omega)
  obtain ⟨w9, hrun, hR9, hg9⟩ : ∃ w9, (Builtin.clear_ #[24] 0 #[.slice (some ⟨g, i * 4, none⟩) (xs.length - i) (c - i)]).run Tryd.prog wr = .ok (.tuple #[]) w9 ∧ Kd.R k29 29 w9 w0.heap.size (fun _ => True) (.slice (some ⟨g, 0, none⟩) i c) (ys.take i) ∧ wr.grownBy w9 (some g) :=
   ⟨_, impl_CutEntry.run_clear_cells wr 24 29 0 _ Tryd.underlying24 impl_CutEntry.zv g (i * 4) (xs.length - i) (c - i) (by omega) (impl_CutEntry.zeros_one _) (fun q hq => hcc _ (by rw [hzl] at hq; show _ < c * 4; omega)) (fun q _ => hff _), hR.1, hR.2⟩
  have HF := Aside0.mk (And.intro hfin (And.intro hR9 (impl_CutEntry.below_grownBy HB.out HG.out hg9)))
  have ci : decide ((i : Int) ≤ (xs.length : Int)) = true := by simpa using hi1
  clear hfin hzl hR hR9 hg9 hcc hff
  go_wp2
  go_ret
  exact ⟨_, rfl, by rw [← HF.out.1]; exact HF.out.2.1, HF.out.2.2⟩}}
def impl_CutEntry.f (k : Nat) (l0 : List S29) (a1 : ByteArray) : Option (List S29 × Bool) := (impl_TreeOk.f k l0).bind fun t => if t = true then (impl_cloneTree.f l0).bind fun y => (impl_entryAt.f y a1).bind fun i => if i < 0 then some (y, false) else if a1.size ≤ 1048576 then some (y.filter (fun e => !impl_CutEntry.cutB a1 e), true) else none else some ([], false)
set_option maxHeartbeats 2000000 in
theorem impl_CutEntry.calls (k : Nat) (A0 : Option Addr) (c0 : Nat) (l0 : List (S29)) (a1 : ByteArray) (r1 : List (S29)) (r2 : Bool) (w : World) (hE : EnvW w) (hr0 : Kd.C k29 w A0 l0.length l0) (hc0 : l0.length ≤ c0) (h : impl_CutEntry.f k l0 a1 = some (r1, r2)) :
 Calls Tryd.prog 18 #[.slice A0 l0.length c0, .string a1] w fun e w' => ∃ v0_ : Value, e = .returned (.tuple #[v0_, .bool r2]) ∧ Kd.R k29 29 w' w.heap.size (fun _ => True) v0_ r1 ∧ Below w.heap.size w w' := by
 unfold impl_CutEntry.f at h
 obtain ⟨t, ht, h⟩ := Option.bind_eq_some_iff.mp h
 -- the world behind the box
 have hb1 : Below w.heap.size w (w.alloc (.cells #[.string a1] 9)) := below_alloc (Below.refl _ _) _
 have HB1 := Aside0.mk hb1
 have HT := Aside0.mk ht
 have HE1 := Aside0.mk (EnvW.below hE hb1)
 have HR1 := Aside0.mk (And.intro (Kd.C_below hr0 hb1) hc0)
 have HQ := Aside0.mk (show (w.alloc (.cells #[.string a1] 9)).cell? ⟨w.heap.size, 0, none⟩ = some (.string a1) ∧ w.heap.size < (w.alloc (.cells #[.string a1] 9)).heap.size from ⟨by simp [go_sem], by show _ < (w.heap.push _).size; rw [Array.size_push]; omega⟩)
 clear hb1 ht hE hr0 hc0
 cases t with
 | false =>
  rw [if_neg (by decide)] at h
  obtain ⟨rfl, rfl⟩ := Prod.mk.inj (Option.some.inj h)
  clear h
  go_enter Tryd.func18, Tryd.ntmps18
  go_wp2_with (go_at_call 22; refine (impl_TreeOk.calls k A0 c0 l0 false _ HE1.out HR1.out.1 HR1.out.2 HT.out).mono ?_; rintro e w8 ⟨rfl, hb8⟩)
  exact bodyPost_ret (v := .tuple #[.slice none 0 0, .bool false]) (by simp [results, Tryd.results18, go_sem]) rfl ⟨_, rfl, Kd.R_nil _ _ _ _ _, below_step HB1.out hb8⟩
 | true =>
  rw [if_pos rfl] at h
  obtain ⟨y, hy, h⟩ := Option.bind_eq_some_iff.mp h
  obtain ⟨i, hi, h⟩ := Option.bind_eq_some_iff.mp h
  have HY := Aside0.mk (And.intro hy hi)
  clear hy hi
  by_cases hneg : i < 0
  {
  rw [if_pos hneg] at h
  obtain ⟨rfl, rfl⟩ := Prod.mk.inj (Option.some.inj h)
  clear h
  have cn : decide (i < 0) = true := decide_eq_true hneg
  go_enter Tryd.func18, Tryd.ntmps18
  go_wp2_with (first | (go_at_call 22; refine (impl_TreeOk.calls k A0 c0 l0 true _ HE1.out HR1.out.1 HR1.out.2 HT.out).mono ?_; rintro e w8 ⟨rfl, hb8⟩) | (go_at_call 37; refine (impl_cloneTree.calls A0 c0 l0 y _ (Kd.C_below HR1.out.1 hb8) HR1.out.2 HY.out.1).mono ?_; rintro e w9 ⟨vy, rfl, hO9, hb9⟩; (obtain ⟨Ay, cy, rfl, hcy, hCy⟩ := Kd.R_reads hO9); have hqx := pw_cell_below hb9 (pw_cell_below hb8 HQ.out.1)) | (go_at_call 36; refine (impl_entryAt.calls Ay cy y a1 i _ hCy hcy HY.out.2).mono ?_; rintro e w10 ⟨rfl, hb10⟩))
  have hb11 := below_step (below_step HB1.out hb8) hb9
  exact bodyPost_ret (v := .tuple #[.slice Ay y.length cy, .bool false]) (by simp [results, Tryd.results18, go_sem]) rfl ⟨_, rfl, Kd.R_lower (Kd.R_below hO9 hb10) (by have := HB1.out.size; have := hb8.size; omega), below_step hb11 hb10⟩}
  {
  rw [if_neg hneg] at h
  by_cases hp : a1.size ≤ 1048576
  {
  rw [if_pos hp] at h
  obtain ⟨rfl, rfl⟩ := Prod.mk.inj (Option.some.inj h)
  clear h
  have cn : decide (i < 0) = false := decide_eq_false hneg
  go_enter Tryd.func18, Tryd.ntmps18
  go_wp2_with (first | (go_at_call 22; refine (impl_TreeOk.calls k A0 c0 l0 true _ HE1.out HR1.out.1 HR1.out.2 HT.out).mono ?_; rintro e w8 ⟨rfl, hb8⟩) | (go_at_call 37; refine (impl_cloneTree.calls A0 c0 l0 y _ (Kd.C_below HR1.out.1 hb8) HR1.out.2 HY.out.1).mono ?_; rintro e w9 ⟨vy, rfl, hO9, hb9⟩; (obtain ⟨Ay, cy, rfl, hcy, hCy⟩ := Kd.R_reads hO9); have hqx := pw_cell_below hb9 (pw_cell_below hb8 HQ.out.1)) | (go_at_call 36; refine (impl_entryAt.calls Ay cy y a1 i _ hCy hcy HY.out.2).mono ?_; rintro e w10 ⟨rfl, hb10⟩) | (go_at_call 42; refine (impl_CutEntry.deleteFunc _ y a1 w.heap.size (w.alloc (.cells #[.string a1] 9)) _ hp (below_step (below_step hb8 hb9) hb10) HQ.out.1 HQ.out.2 (Kd.R_lower (Kd.R_below hO9 hb10) hb8.size)).mono ?_; rintro e w11 ⟨v11, rfl, hO11, hb11⟩))
  exact bodyPost_ret (v := .tuple #[v11, .bool true]) (by simp [results, Tryd.results18, go_sem]) rfl ⟨_, rfl, Kd.R_lower hO11 HB1.out.size, HB1.out.trans (hb11.mono HB1.out.size)⟩}
  {
  rw [if_neg hp] at h
  cases h
}}
end Go.Proofs.YtjnmcgeahomkeaaDoor.P
end

section
namespace Go.Proofs.YtjnmcgeahomkeaaDoor.P
open Go.RowKit Go.Proofs.YtjnmcgeahomkeaaDoorW.PrintWords Go.Proofs.YtjnmcgeahomkeaaDoorW.PrintLast Go.Proofs.YtjnmcgeahomkeaaDoorW.PrintMore Go.Proofs.YtjnmcgeahomkeaaDoorM
attribute [local go_sem] max2_int min2_int max_two min_two max_three min_three max_four min_four
set_option linter.unusedVariables false
set_option linter.unusedSimpArgs false
attribute [local go_sem high] eqA29
set_option maxHeartbeats 8000000
set_option maxRecDepth 100000
mutual
def laws_FnTreeBack.j0 : Nat → List Int → Bool → Option (Bool)
 | 0, _, _ => none
 | k + 1, x0, x37 => if x37 = true then (some false) else ((spec_DrawPutEntry.f k x0).bind fun bt573 => ((impl_PackTree.f k bt573.1).bind fun t581 => ((spec_TreeOk.f k bt573.1).bind fun t584 => (if t584 = true then ((impl_UnpackTree.f k t581).bind fun bt585 => (if bt585.2 = true then ((laws_sameTree.f k bt573.1 bt585.1).bind fun t589 => (if t589 = true then ((impl_TreeSum.f k bt573.1).bind fun t590 => ((impl_Sum.f k t581).bind fun t591 => ((impl_Word32.f k t591).bind fun t592 => (laws_FnTreeBack.j1 k x0 bt573.1 (t590.toList != t592.toList) bt573.2.1 bt573.2.2.1 bt573.2.2.2.1 bt573.2.2.2.2)))) else (laws_FnTreeBack.j1 k x0 bt573.1 true bt573.2.1 bt573.2.2.1 bt573.2.2.2.1 bt573.2.2.2.2))) else (laws_FnTreeBack.j1 k x0 bt573.1 true bt573.2.1 bt573.2.2.1 bt573.2.2.2.1 bt573.2.2.2.2))) else (some ((t581.length : Int) == 0))))))
def laws_FnTreeBack.j1 : Nat → List Int → List (S29) → Bool → ByteArray → Int → ByteArray → Bool → Option (Bool)
 | 0, _, _, _, _, _, _, _ => none
 | k + 1, x0, x5, x71, x581000, x581001, x581002, x581003 => if x71 = true then (some false) else ((spec_DrawUnpackTree.f k x0).bind fun t593 => ((impl_UnpackTree.f k t593).bind fun bt596 => ((spec_UnpackTree.f k t593).bind fun bt600 => (if (bt596.2 != bt600.2) = true then (some false) else (if bt596.2 = true then ((impl_PackTree.f k bt596.1).bind fun t604 => (laws_FnTreeBack.j2 k x5 ((strOfNums t604).toList != (strOfNums t593).toList) x581000 x581001 x581002 x581003)) else (laws_FnTreeBack.j2 k x5 false x581000 x581001 x581002 x581003))))))
def laws_FnTreeBack.j2 : Nat → List (S29) → Bool → ByteArray → Int → ByteArray → Bool → Option (Bool)
 | 0, _, _, _, _, _, _ => none
 | k + 1, x5, x95, x581000, x581001, x581002, x581003 => if x95 = true then (some false) else ((impl_FindEntry.f k x5 x581000).bind fun t607 => ((impl_PutEntry.f k x5 x581000 x581001 x581002 x581003).bind fun bt608 => ((spec_PutEntry.f k x5 x581000 x581001 x581002 x581003).bind fun bt612 => (if (bt608.2 != bt612.2) = true then (some false) else (if bt608.2 = true then ((impl_FindEntry.f k bt608.1 x581000).bind fun t617 => ((spec_TreeOk.f k bt608.1).bind fun t618 => (if t618 = true then (if t617 < 0 then (laws_FnTreeBack.j3 k x5 t607 bt608.1 true x581000 x581001 x581002 x581003) else (if 0 ≤ t617 then (if t617 < (bt608.1.length : Int) then (if (!((((rd_T29 bt608.1 t617).f0).toList) == x581000.toList) || (!(((rd_T29 bt608.1 t617).f1) == x581001) || (!((((rd_T29 bt608.1 t617).f2).toList) == x581002.toList) || (!(((rd_T29 bt608.1 t617).f3) == x581003))))) = true then (laws_FnTreeBack.j3 k x5 t607 bt608.1 true x581000 x581001 x581002 x581003) else (if t607 < 0 then (laws_FnTreeBack.j3 k x5 t607 bt608.1 ((bt608.1.length : Int) != (wrap64 ((x5.length : Int) + 1))) x581000 x581001 x581002 x581003) else (laws_FnTreeBack.j3 k x5 t607 bt608.1 false x581000 x581001 x581002 x581003))) else (none)) else (none))) else (laws_FnTreeBack.j3 k x5 t607 bt608.1 true x581000 x581001 x581002 x581003)))) else ((laws_sameTree.f k bt608.1 x5).bind fun t616 => (some t616)))))))
def laws_FnTreeBack.j3 : Nat → List (S29) → Int → List (S29) → Bool → ByteArray → Int → ByteArray → Bool → Option (Bool)
 | 0, _, _, _, _, _, _, _, _ => none
 | k + 1, x5, x15, x16, x150, x581000, x581001, x581002, x581003 => if x150 = true then (some false) else ((impl_CutEntry.f k x16 x581000).bind fun bt620 => (if bt620.2 = true then (if x15 ≥ 0 then ((impl_FindEntry.f k bt620.1 x581000).bind fun t624 => (some (decide (t624 < 0)))) else ((laws_sameTree.f k bt620.1 x5).bind fun t625 => (if t625 = true then ((impl_FindEntry.f k bt620.1 x581000).bind fun t626 => (some (decide (t626 < 0)))) else (some false)))) else (some false)))
end
def laws_FnTreeBack.f (k : Nat) (l0 : List Int) : Option (Bool) := (laws_big.f l0).bind fun t562 => (if t562 = true then (some true) else ((impl_PackTree.f k (([] : List (S29)))).bind fun t566 => ((impl_UnpackTree.f k t566).bind fun bt569 => (if bt569.2 = true then (laws_FnTreeBack.j0 k l0 (decide ((bt569.1.length : Int) > 0))) else (laws_FnTreeBack.j0 k l0 true)))))
def laws_FnTreeBack.T18 : Bool × List (List Nat × List Nat) := (true, [([], []), ([0], [0]), ([1], [1]), ([2, 1, 1], [1, 2]), ([3, 1], [1, 3]), ([1], [1]), ([5, 1], [1, 5]), ([4, 6, 1], [1, 4, 6]), ([1, 7], [1, 7])])
def laws_FnTreeBack.B18 : List Nat := [0, 1, 3, 7, 15, 3, 35, 127, 255]
theorem laws_FnTreeBack.tab18 : rtab .any (opsOf Tryd.f3 18) = laws_FnTreeBack.T18 := by kernel_rfl
theorem laws_FnTreeBack.bits18 : waitsOk laws_FnTreeBack.T18.2 laws_FnTreeBack.B18 = true := by kernel_rfl
def laws_FnTreeBack.T28 : Bool × List (List Nat × List Nat) := (true, [([], []), ([0], [0]), ([1], [1]), ([2, 1], [2]), ([3], [3]), ([4, 3], [3, 4]), ([3, 5], [3, 5]), ([6, 3], [6]), ([7], [7]), ([7], [7]), ([8, 9, 7], [7, 8, 9]), ([10, 7], [7, 10]), ([7], [7]), ([11, 12, 7], [7, 11, 12]), ([7, 13], [7, 13]), ([14, 7], [14]), ([15], [15]), ([16, 15], [15, 16]), ([17, 15, 15], [15, 17]), ([18], [18]), ([19, 18], [18, 19]), ([18], [18]), ([21, 18], [18, 21]), ([22, 18], [18, 22]), ([20, 23, 18], [18, 20, 23]), ([18, 24, 15], [15, 18, 24]), ([15, 25], [15, 25])])
def laws_FnTreeBack.B28 : List Nat := [0, 1, 3, 7, 15, 31, 63, 127, 255, 255, 1023, 2047, 255, 8191, 16383, 32767, 65535, 131071, 262143, 524287, 1048575, 524287, 2621439, 6815743, 16777215, 33554431, 67108863]
theorem laws_FnTreeBack.tab28 : rtab .any (opsOf Tryd.f3 28) = laws_FnTreeBack.T28 := by kernel_rfl
theorem laws_FnTreeBack.bits28 : waitsOk laws_FnTreeBack.T28.2 laws_FnTreeBack.B28 = true := by kernel_rfl
theorem laws_FnTreeBack.calls (k : Nat) (A0 : Option Addr) (c0 : Nat) (l0 : List Int) (r : Bool) (w : World) (hE : EnvW w) (hr0 : Kd.C (Kd.int .u8) w A0 l0.length l0) (hc0 : l0.length ≤ c0) (h : laws_FnTreeBack.f k l0 = some r) :
 Calls Tryd.prog 3 #[.slice A0 l0.length c0] w fun e w' => e = .returned (.bool r) ∧ Below w.heap.size w w' := by
 have hu29 := Tryd.underlying29
 have HE := Aside0.mk hE
 clear hE
 have HR0 := Aside0.mk hr0
 have HC0 := Aside0.mk hc0
 clear hr0 hc0
 have HB := Aside0.mk (Below.refl w.heap.size w)
 have H : ((laws_big.f l0).bind fun t562 => (if t562 = true then (some true) else ((impl_PackTree.f k (([] : List (S29)))).bind fun t566 => ((impl_UnpackTree.f k t566).bind fun bt569 => (if bt569.2 = true then (laws_FnTreeBack.j0 k l0 (decide ((bt569.1.length : Int) > 0))) else (laws_FnTreeBack.j0 k l0 true)))))) = some r := h
 clear h
 replace H := Option.bind_eq_some_iff.mp H
 obtain ⟨t562, A20, H⟩ := H
 have A2 := Aside0.mk A20
 clear A20
 by_cases c3 : t562 = true
 {
 subst c3
 rw [if_pos rfl] at H
 obtain rfl := Option.some.inj H
 go_enter Tryd.func3, Tryd.ntmps3
 go_wp2_with (first | ((with_reducible refine gate_callee (f := 4) rfl ?_); refine gL_ (some 24) Tryd.func4 #[.slice A0 l0.length c0] ?_; (with_reducible refine (laws_big.calls _ _ l0 true _ ?side1 ?side2 A2.out).mono ?_); (case side1 => exact cc_ HR0); (case side2 => exact HC0.out); rintro e w' ⟨rfl, ⟨nd, rfl⟩⟩; refine ⟨_, rfl, ?_⟩))
 go_ret
 exact ⟨eR_, bw_ HB⟩}
 {
 replace c3 := Bool.eq_false_iff.mpr c3
 subst c3
 rw [if_neg (show ¬ (false = true) by decide)] at H
 obtain ⟨y563, hy563⟩ : ∃ y_ : List (S29), y_ = (([] : List (S29))) := ⟨_, rfl⟩
 replace H : ((impl_PackTree.f k y563).bind fun t566 => ((impl_UnpackTree.f k t566).bind fun bt569 => (if bt569.2 = true then (laws_FnTreeBack.j0 k l0 (decide ((bt569.1.length : Int) > 0))) else (laws_FnTreeBack.j0 k l0 true)))) = some r := rH_ hy563 H
 have Ny563 := Aside0.mk hy563
 clear hy563
 replace H := Option.bind_eq_some_iff.mp H
 obtain ⟨t566, A40, H⟩ := H
 have A4 := Aside0.mk A40
 clear A40
 replace H := Option.bind_eq_some_iff.mp H
 obtain ⟨⟨t569, t570⟩, A50, H⟩ := H
 have A5 := Aside0.mk A50
 clear A50
 have HC6 := Aside0.mk H
 clear H
 go_enter Tryd.func3, Tryd.ntmps3
 go_upto_region 4 with (first | ((with_reducible refine gate_callee (f := 4) rfl ?_); refine gL_ (some 24) Tryd.func4 #[.slice A0 l0.length c0] ?_; (with_reducible refine (laws_big.calls _ _ l0 false _ ?side1 ?side2 A2.out).mono ?_); (case side1 => exact cc_ HR0); (case side2 => exact HC0.out); rintro e w' ⟨rfl, ⟨nd, rfl⟩⟩; refine ⟨_, rfl, ?_⟩) | ((with_reducible refine gate_dst (N := 26) rfl ?_); (try (refine gate_guard (by rfl) ?_; dsimp only)); refine Kd.R_lit k29 _ 29 ?hg (N := 26) ?hd (xs := ([] : List (S29))) (inner := []) (ok := fun _ => True) (okp := fun _ => True) ?hr ?hp (fun _ hk => hk) trivial (Below.refl _ _) (Nat.le_refl _) (by simp) ?_; (case hd => rfl); (case hg => rfl); (case hr => first | (go_simp; done) | (go_simp; rfl)); (case hp => exact (Reps.none _ _)); intro v564 w7 ho8 hb hg_ hnew_; clear hg_ hnew_; (first | rw [← Ny563.out] at ho8 | (simp only [Int.reduceToNat] at ho8; rw [← Ny563.out] at ho8)); have HO565 := Aside0.mk (Kd.R_lower ho8 (below_size (bw_ HB))); replace HB := Aside0.mk (below_step (bw_ HB) hb); clear hb ho8; obtain ⟨Ao9, co9, eo9⟩ := Kd.R_slice HO565.out; subst eo9) | ((with_reducible refine gate_callee (f := 6) rfl ?_); refine gL_ (some 27) Tryd.func6 #[.slice Ao9 y563.length co9] ?_; (with_reducible refine (impl_PackTree.calls k _ _ y563 t566 _ ?side1 ?side2 ?side3 A4.out).mono ?_); (case side1 => refine EnvW.below HE.out ?_; exact bw_ HB); (case side2 => exact cR_ HO565); (case side3 => exact (Kd.R_reads' HO565.out).2.1); rintro e w10 ⟨v567, rfl, ho0, hb⟩; refine ⟨_, rfl, ?_⟩; replace HO565 := Aside0.mk (Kd.R_below (kr_ HO565) hb); have HO568 := Aside0.mk (Kd.R_lower ho0 (below_size (bw_ HB))); replace HB := Aside0.mk (below_step (bw_ HB) hb); clear hb; (try clear ho0); obtain ⟨Ao11, co11, eo11⟩ := Kd.R_slice HO568.out; subst eo11) | ((with_reducible refine gate_callee (f := 5) rfl ?_); refine gL_ (some 28) Tryd.func5 #[.slice Ao11 t566.length co11] ?_; (with_reducible refine (impl_UnpackTree.calls k _ _ t566 t569 t570 _ ?side1 ?side2 ?side3 A5.out).mono ?_); (case side1 => refine EnvW.below HE.out ?_; exact bw_ HB); (case side2 => exact cR_ HO568); (case side3 => exact (Kd.R_reads' HO568.out).2.1); rintro e w12 ⟨v571, rfl, ho0, hb⟩; refine ⟨_, rfl, ?_⟩; replace HO568 := Aside0.mk (Kd.R_below (kr_ HO568) hb); have HO572 := Aside0.mk (Kd.R_lower (Kd.R_new' ho0 (Kd.R_lt (kr_ HO565))) (below_size (bw_ HB))); replace HO565 := Aside0.mk (Kd.R_elder' (kr_ HO565) (Kd.R_base ho0) hb); replace HB := Aside0.mk (below_step (bw_ HB) hb); clear hb; (try clear ho0)))
 (try simp only [Act.put, List.setIfInBounds_toArray, List.set_cons_zero, List.set_cons_succ])
 go_cut [37] (fun v37 wc => ∃ (kq : Nat) (x37_5 : Bool), v37 = .bool x37_5 ∧ Aside0 (laws_FnTreeBack.j0 kq l0 x37_5 = some r) ∧ Aside0 (kq ≤ k) ∧ Aside0 (Below w.heap.size w wc))
 case first =>
  have H := HC6.out
  clear HC6
  by_cases c13 : t570 = true
  {
  subst c13
  rw [if_pos rfl] at H
  have H' := Aside0.mk H
  clear H
  obtain ⟨Ao14, co14, eo14⟩ := Kd.R_slice HO572.out
  subst eo14
  go_wp2
  go_meet
  case rel => exact ⟨_, (decide ((t569.length : Int) > 0)), (by first | rfl | (simp; done) | (simp [*]; done)), H', ⟨by first | omega | exact Nat.le_refl _⟩, ⟨bw_ HB⟩⟩}
  {
  replace c13 := Bool.eq_false_iff.mpr c13
  subst c13
  rw [if_neg (show ¬ (false = true) by decide)] at H
  have H' := Aside0.mk H
  clear H
  go_wp2
  go_meet
  case rel => exact ⟨_, (true), (by first | rfl | (simp; done) | (simp [*]; done)), H', ⟨by first | omega | exact Nat.le_refl _⟩, ⟨bw_ HB⟩⟩}
 case rest =>
  clear HC6
  try clear c1
  try clear p2
  try clear c3
  try clear c4
  try clear c5
  try clear c6
  try clear c13
  obtain ⟨kq, x37_5, rfl, HA, HJ5, HB⟩ := hcut
  cases kq with
  | zero => exact absurd HA.out (by simp [laws_FnTreeBack.j0])
  | succ kj5 =>
   have H := HA.out
   clear HA
   simp only [laws_FnTreeBack.j0] at H
   by_cases c15 : x37_5 = true
   {
   subst c15
   rw [if_pos rfl] at H
   obtain rfl := Option.some.inj H
   go_wp2
   go_ret
   exact ⟨eR_, bw_ HB⟩}
   {
   replace c15 := Bool.eq_false_iff.mpr c15
   subst c15
   rw [if_neg (show ¬ (false = true) by decide)] at H
   replace H := Option.bind_eq_some_iff.mp H
   obtain ⟨⟨t573, t576, t577, t578, t579⟩, A160, H⟩ := H
   have A16 := Aside0.mk A160
   clear A160
   replace H := Option.bind_eq_some_iff.mp H
   obtain ⟨t581, A170, H⟩ := H
   have A17 := Aside0.mk A170
   clear A170
   replace H := Option.bind_eq_some_iff.mp H
   obtain ⟨t584, A180, H⟩ := H
   have A18 := Aside0.mk A180
   clear A180
   by_cases c19 : t584 = true
   {
   subst c19
   rw [if_pos rfl] at H
   replace H := Option.bind_eq_some_iff.mp H
   obtain ⟨⟨t585, t586⟩, A200, H⟩ := H
   have A20 := Aside0.mk A200
   clear A200
   have HC21 := Aside0.mk H
   clear H
   go_upto_region 11 with (first | ((with_reducible refine gate_callee (f := 7) rfl ?_); refine gL_ (some 40) Tryd.func7 #[.slice A0 l0.length c0] ?_; (with_reducible refine (spec_DrawPutEntry.calls kj5 _ _ l0 t573 t576 t577 t578 t579 _ ?side1 ?side2 A16.out).mono ?_); (case side1 => exact cS_ HR0 HB); (case side2 => exact HC0.out); rintro e w22 ⟨v574, rfl, ho0, hb⟩; refine ⟨_, rfl, ?_⟩; have HO575 := Aside0.mk (Kd.R_lower ho0 (below_size (bw_ HB))); replace HB := Aside0.mk (below_step (bw_ HB) hb); clear hb; (try clear ho0)) | ((with_reducible refine gate_dst (N := 6) rfl ?_); (try (refine gate_guard (by rfl) ?_; dsimp only)); refine bE_ 6 #[.string (⟨#[]⟩ : ByteArray), .int .i64 0, .string (⟨#[]⟩ : ByteArray), .bool false] 29 ?_; intro gb580 hg w23 hbox hb; replace HO575 := Aside0.mk (Kd.R_below (Kd.R_elderB (kr_ HO575) gb580 (Nat.le_of_eq hg.symm)) hb); have BK580 := Aside0.mk (hbox); have GW580 := Aside0.mk ((ge_ hg (bw_ HB))); have GE580 := Aside0.mk ((ge_ hg (bw_ HB))); replace HB := Aside0.mk (below_step (bw_ HB) hb); clear hb hbox hg; obtain ⟨hcz24_0, hcz24_1, hcz24_2, hcz24_3, hfz24_0, hfz24_1, hfz24_2, hfz24_3⟩ := zc4_ BK580; obtain ⟨Ao25, co25, eo25⟩ := Kd.R_slice HO575.out; subst eo25) | ((with_reducible refine gate_callee (f := 6) rfl ?_); refine gL_ (some 44) Tryd.func6 #[.slice Ao25 t573.length co25] ?_; (with_reducible refine (impl_PackTree.calls kj5 _ _ t573 t581 _ ?side1 ?side2 ?side3 A17.out).mono ?_); (case side1 => refine EnvW.below HE.out ?_; exact bw1_ HB GE580); (case side2 => refine (Kd.R_reads' (e := 29) (base := w.heap.size) (ok := fun k_ => (True ∧ k_ ≠ gb580)) (n := t573.length) (c := co25) ?_).2.2; exact (by (with_reducible repeat (first | apply Kd.R_alloc | apply Kd.R_drewN | apply Kd.R_drew)); exact (Kd.R_mono (Kd.R_far (p := ⟨gb580, 3, none⟩) (Kd.R_far (p := ⟨gb580, 2, none⟩) (Kd.R_far (p := ⟨gb580, 1, none⟩) (Kd.R_far (p := ⟨gb580, 0, none⟩) (Kd.R_mono HO575.out (fun k_ hk => (⟨hk, hk.2⟩ : _ ∧ k_ ≠ gb580))) (fun _ hk => hk.2) (.string t576)) (fun _ hk => hk.2) (.int .i64 t577)) (fun _ hk => hk.2) (.string t578)) (fun _ hk => hk.2) (.bool t579)) (fun _ h_ => h_.1)))); (case side3 => exact (Kd.R_reads' HO575.out).2.1); rintro e w26 ⟨v582, rfl, ho0, hb⟩; refine ⟨_, rfl, ?_⟩; replace HO575 := Aside0.mk (Kd.R_below (by (with_reducible repeat (first | apply Kd.R_alloc | apply Kd.R_drewN | apply Kd.R_drew)); exact (Kd.R_mono (Kd.R_far (p := ⟨gb580, 3, none⟩) (Kd.R_far (p := ⟨gb580, 2, none⟩) (Kd.R_far (p := ⟨gb580, 1, none⟩) (Kd.R_far (p := ⟨gb580, 0, none⟩) (Kd.R_mono HO575.out (fun k_ hk => (⟨hk, hk.2⟩ : _ ∧ k_ ≠ gb580))) (fun _ hk => hk.2) (.string t576)) (fun _ hk => hk.2) (.int .i64 t577)) (fun _ hk => hk.2) (.string t578)) (fun _ hk => hk.2) (.bool t579)) (fun _ h_ => h_.1))) hb); have HO583 := Aside0.mk (Kd.R_lower ho0 (below_size (bw1_ HB GE580))); replace BK580 := Aside0.mk (blk_below (g := gb580) (o := .cells #[.string t576, .int .i64 t577, .string t578, .bool t579] 29 (0, 0)) (by (with_reducible repeat (first | refine blk_drewN ?_ _ | refine blk_drew ?_ | refine blk_alloc ?_ _)); refine blk_put (cs := #[.string t576, .int .i64 t577, .string t578, .bool false]) ?_ 3 _ rfl; (with_reducible repeat (first | refine blk_drewN ?_ _ | refine blk_drew ?_ | refine blk_alloc ?_ _)); refine blk_put (cs := #[.string t576, .int .i64 t577, .string (⟨#[]⟩ : ByteArray), .bool false]) ?_ 2 _ rfl; (with_reducible repeat (first | refine blk_drewN ?_ _ | refine blk_drew ?_ | refine blk_alloc ?_ _)); refine blk_put (cs := #[.string t576, .int .i64 0, .string (⟨#[]⟩ : ByteArray), .bool false]) ?_ 1 _ rfl; (with_reducible repeat (first | refine blk_drewN ?_ _ | refine blk_drew ?_ | refine blk_alloc ?_ _)); refine blk_put (cs := #[.string (⟨#[]⟩ : ByteArray), .int .i64 0, .string (⟨#[]⟩ : ByteArray), .bool false]) ?_ 0 _ rfl; exact bk_ BK580) hb); replace HB := Aside0.mk (below_step (bw1_ HB GE580) hb); clear hb; (try clear ho0)) | ((with_reducible refine gate_callee (f := 8) rfl ?_); refine gL_ (some 46) Tryd.func8 #[.slice Ao25 t573.length co25] ?_; (with_reducible refine (spec_TreeOk.calls kj5 _ _ t573 true _ ?side1 ?side2 A18.out).mono ?_); (case side1 => exact cR_ HO575); (case side2 => exact (Kd.R_reads' HO575.out).2.1); rintro e w27 ⟨rfl, hb⟩; refine ⟨_, rfl, ?_⟩; replace HO575 := Aside0.mk (Kd.R_below (kr_ HO575) hb); replace HO583 := Aside0.mk (Kd.R_below (kr_ HO583) hb); replace BK580 := Aside0.mk (blk_below (bk_ BK580) hb); replace HB := Aside0.mk (below_step (bw1_ HB GE580) hb); clear hb; obtain ⟨Ao28, co28, eo28⟩ := Kd.R_slice HO583.out; subst eo28) | ((with_reducible refine gate_callee (f := 5) rfl ?_); refine gL_ (some 53) Tryd.func5 #[.slice Ao28 t581.length co28] ?_; (with_reducible refine (impl_UnpackTree.calls kj5 _ _ t581 t585 t586 _ ?side1 ?side2 ?side3 A20.out).mono ?_); (case side1 => refine EnvW.below HE.out ?_; exact bw1_ HB GE580); (case side2 => exact cR_ HO583); (case side3 => exact (Kd.R_reads' HO583.out).2.1); rintro e w29 ⟨v587, rfl, ho0, hb⟩; refine ⟨_, rfl, ?_⟩; replace HO583 := Aside0.mk (Kd.R_below (kr_ HO583) hb); have HO588 := Aside0.mk (Kd.R_lower (Kd.R_newB (Kd.R_new' ho0 (Kd.R_lt (kr_ HO575))) (g := gb580) (o := .cells #[.string t576, .int .i64 t577, .string t578, .bool t579] 29 (0, 0)) (bk_ BK580)) (below_size (bw1_ HB GE580))); replace HO575 := Aside0.mk (Kd.R_elder' (kr_ HO575) (Kd.R_base ho0) hb); replace BK580 := Aside0.mk (blk_below (bk_ BK580) hb); replace HB := Aside0.mk (below_step (bw1_ HB GE580) hb); clear hb; (try clear ho0)))
   (try simp only [Act.put, List.setIfInBounds_toArray, List.set_cons_zero, List.set_cons_succ])
   go_cut [71] (fun v71 wc => ∃ (kq : Nat) (x71_20 : Bool), v71 = .bool x71_20 ∧ Aside0 (laws_FnTreeBack.j1 kq l0 t573 x71_20 t576 t577 t578 t579 = some r) ∧ Aside0 (kq ≤ kj5) ∧ Aside0 (Kd.R k29 29 wc w.heap.size (fun k_ => k_ ≠ gb580) (.slice Ao25 t573.length co25) t573) ∧ Aside0 (wc.heap[gb580]? = some (.cells #[.string t576, .int .i64 t577, .string t578, .bool t579] 29 (0, 0))) ∧ Aside0 (Below w.heap.size w wc))
   case first =>
    have H := HC21.out
    clear HC21
    by_cases c30 : t586 = true
    {
    subst c30
    rw [if_pos rfl] at H
    replace H := Option.bind_eq_some_iff.mp H
    obtain ⟨t589, A310, H⟩ := H
    have A31 := Aside0.mk A310
    clear A310
    by_cases c32 : t589 = true
    {
    subst c32
    rw [if_pos rfl] at H
    replace H := Option.bind_eq_some_iff.mp H
    obtain ⟨t590, A330, H⟩ := H
    have A33 := Aside0.mk A330
    clear A330
    replace H := Option.bind_eq_some_iff.mp H
    obtain ⟨t591, A340, H⟩ := H
    have A34 := Aside0.mk A340
    clear A340
    replace H := Option.bind_eq_some_iff.mp H
    obtain ⟨t592, A350, H⟩ := H
    have A35 := Aside0.mk A350
    clear A350
    have H' := Aside0.mk H
    clear H
    obtain ⟨Ao36, co36, eo36⟩ := Kd.R_slice HO588.out
    subst eo36
    go_wp2_with (first | (go_at_call 9; (with_reducible refine (laws_sameTree.calls kj5 _ _ t573 _ _ t585 true _ ?side1 ?side2 ?side3 ?side4 A31.out).mono ?_); (case side1 => exact cR_ HO575); (case side2 => exact (Kd.R_reads' HO575.out).2.1); (case side3 => exact cR_ HO588); (case side4 => exact (Kd.R_reads' HO588.out).2.1); rintro e w' ⟨rfl, ⟨nd, rfl⟩⟩) | (go_at_call 10; (with_reducible refine (impl_TreeSum.calls kj5 _ _ t573 t590 _ ?side1 ?side2 ?side3 A33.out).mono ?_); (case side1 => refine EnvW.below HE.out ?_; exact bw1_ HB GE580); (case side2 => exact cR_ HO575); (case side3 => exact (Kd.R_reads' HO575.out).2.1); rintro e w37 ⟨rfl, hb⟩; replace HO575 := Aside0.mk (Kd.R_below (kr_ HO575) hb); replace HO583 := Aside0.mk (Kd.R_below (kr_ HO583) hb); replace HO588 := Aside0.mk (Kd.R_below (kr_ HO588) hb); replace BK580 := Aside0.mk (blk_below (bk_ BK580) hb); replace HB := Aside0.mk (below_step (bw1_ HB GE580) hb); clear hb) | (go_at_call 12; (with_reducible refine (impl_Sum.calls kj5 _ _ t581 t591 _ ?side1 ?side2 A34.out).mono ?_); (case side1 => exact cR_ HO583); (case side2 => exact (Kd.R_reads' HO583.out).2.1); rintro e w' ⟨rfl, ⟨nd, rfl⟩⟩) | (go_at_call 11; (with_reducible refine (impl_Word32.calls kj5 t591 t592 _ A35.out).mono ?_); rintro e w38 ⟨rfl, hb⟩; replace HO575 := Aside0.mk (Kd.R_below (kr_ HO575) hb); replace HO583 := Aside0.mk (Kd.R_below (kr_ HO583) hb); replace HO588 := Aside0.mk (Kd.R_below (kr_ HO588) hb); replace BK580 := Aside0.mk (blk_below (bk_ BK580) hb); replace HB := Aside0.mk (below_step (bw1_ HB GE580) hb); clear hb))
    go_meet
    case rel => exact ⟨_, ((t590.toList != t592.toList)), (by first | rfl | (simp; done) | (simp [*]; done)), H', ⟨by have := HJ5.out; first | omega | exact Nat.le_refl _⟩, ⟨by (with_reducible repeat (first | apply Kd.R_alloc | apply Kd.R_drewN | apply Kd.R_drew)); exact Kd.R_mono HO575.out (fun _ hk => hk.1.2)⟩, ⟨bk_ BK580⟩, ⟨bw1_ HB GE580⟩⟩}
    {
    replace c32 := Bool.eq_false_iff.mpr c32
    subst c32
    rw [if_neg (show ¬ (false = true) by decide)] at H
    have H' := Aside0.mk H
    clear H
    obtain ⟨Ao39, co39, eo39⟩ := Kd.R_slice HO588.out
    subst eo39
    go_wp2_with (first | (go_at_call 9; (with_reducible refine (laws_sameTree.calls kj5 _ _ t573 _ _ t585 false _ ?side1 ?side2 ?side3 ?side4 A31.out).mono ?_); (case side1 => exact cR_ HO575); (case side2 => exact (Kd.R_reads' HO575.out).2.1); (case side3 => exact cR_ HO588); (case side4 => exact (Kd.R_reads' HO588.out).2.1); rintro e w' ⟨rfl, ⟨nd, rfl⟩⟩))
    go_meet
    case rel => exact ⟨_, (true), (by first | rfl | (simp; done) | (simp [*]; done)), H', ⟨by have := HJ5.out; first | omega | exact Nat.le_refl _⟩, ⟨by (with_reducible repeat (first | apply Kd.R_alloc | apply Kd.R_drewN | apply Kd.R_drew)); exact Kd.R_mono HO575.out (fun _ hk => hk.1.2)⟩, ⟨bk_ BK580⟩, ⟨bw1_ HB GE580⟩⟩}}
    {
    replace c30 := Bool.eq_false_iff.mpr c30
    subst c30
    rw [if_neg (show ¬ (false = true) by decide)] at H
    have H' := Aside0.mk H
    clear H
    go_wp2
    go_meet
    case rel => exact ⟨_, (true), (by first | rfl | (simp; done) | (simp [*]; done)), H', ⟨by have := HJ5.out; first | omega | exact Nat.le_refl _⟩, ⟨by (with_reducible repeat (first | apply Kd.R_alloc | apply Kd.R_drewN | apply Kd.R_drew)); exact Kd.R_mono HO575.out (fun _ hk => hk.1.2)⟩, ⟨bk_ BK580⟩, ⟨bw1_ HB GE580⟩⟩}
   case rest =>
    clear HC21
    try clear c1
    try clear p2
    try clear c3
    try clear c4
    try clear c5
    try clear c6
    try clear c7
    try clear c8
    try clear c13
    try clear c15
    try clear c19
    try clear c30
    try clear c32
    try clear hcz24_0 hcz24_1 hcz24_2 hcz24_3
    try clear hfz24_0 hfz24_1 hfz24_2 hfz24_3
    try clear p2
    obtain ⟨kq, x71_20, rfl, HA, HJ20, HO_5, BK580, HB⟩ := hcut
    cases kq with
    | zero => exact absurd HA.out (by simp [laws_FnTreeBack.j1])
    | succ kj20 =>
     have H := HA.out
     clear HA
     simp only [laws_FnTreeBack.j1] at H
     by_cases c40 : x71_20 = true
     {
     subst c40
     rw [if_pos rfl] at H
     obtain rfl := Option.some.inj H
     go_wp2
     go_ret
     exact ⟨eR_, bw1_ HB GE580⟩}
     {
     replace c40 := Bool.eq_false_iff.mpr c40
     subst c40
     rw [if_neg (show ¬ (false = true) by decide)] at H
     replace H := Option.bind_eq_some_iff.mp H
     obtain ⟨t593, A410, H⟩ := H
     have A41 := Aside0.mk A410
     clear A410
     replace H := Option.bind_eq_some_iff.mp H
     obtain ⟨⟨t596, t597⟩, A420, H⟩ := H
     have A42 := Aside0.mk A420
     clear A420
     replace H := Option.bind_eq_some_iff.mp H
     obtain ⟨⟨t600, t601⟩, A430, H⟩ := H
     have A43 := Aside0.mk A430
     clear A430
     by_cases c44 : (t597 != t601) = true
     {
     rw [if_pos c44] at H
     have c44b0 : (t597 != t601) = true := c44
     (try (have c44b1 : decide (t597 = t601) = false := by simpa using c44))
     (try (have c44b2 : (t597 == t601) = false := by simpa using c44))
     (try (have c44b3 : ¬ (t597 = t601) := by simpa using c44))
     clear c44
     obtain rfl := Option.some.inj H
     go_wp2_with (first | ((with_reducible refine gate_callee (f := 13) rfl ?_); refine gL_ (some 73) Tryd.func13 #[.slice A0 l0.length c0] ?_; (with_reducible refine (spec_DrawUnpackTree.calls kj20 _ _ l0 t593 _ ?side1 ?side2 A41.out).mono ?_); (case side1 => exact cS_ HR0 HB); (case side2 => exact HC0.out); rintro e w45 ⟨v594, rfl, ho0, hb⟩; refine ⟨_, rfl, ?_⟩; replace HO_5 := Aside0.mk (Kd.R_below (kr_ HO_5) hb); have HO595 := Aside0.mk (Kd.R_lower ho0 (below_size (bw1_ HB GE580))); replace BK580 := Aside0.mk (blk_below (bk_ BK580) hb); replace HB := Aside0.mk (below_step (bw1_ HB GE580) hb); clear hb; (try clear ho0); obtain ⟨Ao46, co46, eo46⟩ := Kd.R_slice HO595.out; subst eo46) | ((with_reducible refine gate_callee (f := 5) rfl ?_); refine gL_ (some 76) Tryd.func5 #[.slice Ao46 t593.length co46] ?_; (with_reducible refine (impl_UnpackTree.calls kj20 _ _ t593 t596 t597 _ ?side1 ?side2 ?side3 A42.out).mono ?_); (case side1 => refine EnvW.below HE.out ?_; exact bw1_ HB GE580); (case side2 => exact cR_ HO595); (case side3 => exact (Kd.R_reads' HO595.out).2.1); rintro e w47 ⟨v598, rfl, ho0, hb⟩; refine ⟨_, rfl, ?_⟩; replace HO595 := Aside0.mk (Kd.R_below (kr_ HO595) hb); have HO599 := Aside0.mk (Kd.R_lower (Kd.R_newB (Kd.R_new' ho0 (Kd.R_lt (kr_ HO_5))) (g := gb580) (o := .cells #[.string t576, .int .i64 t577, .string t578, .bool t579] 29 (0, 0)) (bk_ BK580)) (below_size (bw1_ HB GE580))); replace HO_5 := Aside0.mk (Kd.R_elder' (kr_ HO_5) (Kd.R_base ho0) hb); replace BK580 := Aside0.mk (blk_below (bk_ BK580) hb); replace HB := Aside0.mk (below_step (bw1_ HB GE580) hb); clear hb; (try clear ho0)) | ((with_reducible refine gate_callee (f := 14) rfl ?_); refine gL_ (some 81) Tryd.func14 #[.slice Ao46 t593.length co46] ?_; (with_reducible refine (spec_UnpackTree.calls kj20 _ _ t593 t600 t601 _ ?side1 ?side2 A43.out).mono ?_); (case side1 => exact cR_ HO595); (case side2 => exact (Kd.R_reads' HO595.out).2.1); rintro e w48 ⟨v602, rfl, ho0, hb⟩; refine ⟨_, rfl, ?_⟩; replace HO595 := Aside0.mk (Kd.R_below (kr_ HO595) hb); have HO603 := Aside0.mk (Kd.R_lower (Kd.R_newB (Kd.R_new' (Kd.R_new' ho0 (Kd.R_lt (kr_ HO_5))) (Kd.R_lt (kr_ HO599))) (g := gb580) (o := .cells #[.string t576, .int .i64 t577, .string t578, .bool t579] 29 (0, 0)) (bk_ BK580)) (below_size (bw1_ HB GE580))); replace HO_5 := Aside0.mk (Kd.R_elder' (kr_ HO_5) (Kd.R_base ho0) hb); replace HO599 := Aside0.mk (Kd.R_elder' (kr_ HO599) (Kd.R_base ho0) hb); replace BK580 := Aside0.mk (blk_below (bk_ BK580) hb); replace HB := Aside0.mk (below_step (bw1_ HB GE580) hb); clear hb; (try clear ho0)))
     go_ret
     exact ⟨eR_, bw1_ HB GE580⟩}
     {
     rw [if_neg c44] at H
     have c44b0 : (t597 != t601) = false := by simpa using c44
     (try (have c44b1 : decide (t597 = t601) = true := by simpa using c44))
     (try (have c44b2 : (t597 == t601) = true := by simpa using c44))
     clear c44
     have HC49 := Aside0.mk H
     clear H
     go_upto_region 18 with (first | ((with_reducible refine gate_callee (f := 13) rfl ?_); refine gL_ (some 73) Tryd.func13 #[.slice A0 l0.length c0] ?_; (with_reducible refine (spec_DrawUnpackTree.calls kj20 _ _ l0 t593 _ ?side1 ?side2 A41.out).mono ?_); (case side1 => exact cS_ HR0 HB); (case side2 => exact HC0.out); rintro e w50 ⟨v594, rfl, ho0, hb⟩; refine ⟨_, rfl, ?_⟩; replace HO_5 := Aside0.mk (Kd.R_below (kr_ HO_5) hb); have HO595 := Aside0.mk (Kd.R_lower ho0 (below_size (bw1_ HB GE580))); replace BK580 := Aside0.mk (blk_below (bk_ BK580) hb); replace HB := Aside0.mk (below_step (bw1_ HB GE580) hb); clear hb; (try clear ho0); obtain ⟨Ao51, co51, eo51⟩ := Kd.R_slice HO595.out; subst eo51) | ((with_reducible refine gate_callee (f := 5) rfl ?_); refine gL_ (some 76) Tryd.func5 #[.slice Ao51 t593.length co51] ?_; (with_reducible refine (impl_UnpackTree.calls kj20 _ _ t593 t596 t597 _ ?side1 ?side2 ?side3 A42.out).mono ?_); (case side1 => refine EnvW.below HE.out ?_; exact bw1_ HB GE580); (case side2 => exact cR_ HO595); (case side3 => exact (Kd.R_reads' HO595.out).2.1); rintro e w52 ⟨v598, rfl, ho0, hb⟩; refine ⟨_, rfl, ?_⟩; replace HO595 := Aside0.mk (Kd.R_below (kr_ HO595) hb); have HO599 := Aside0.mk (Kd.R_lower (Kd.R_newB (Kd.R_new' ho0 (Kd.R_lt (kr_ HO_5))) (g := gb580) (o := .cells #[.string t576, .int .i64 t577, .string t578, .bool t579] 29 (0, 0)) (bk_ BK580)) (below_size (bw1_ HB GE580))); replace HO_5 := Aside0.mk (Kd.R_elder' (kr_ HO_5) (Kd.R_base ho0) hb); replace BK580 := Aside0.mk (blk_below (bk_ BK580) hb); replace HB := Aside0.mk (below_step (bw1_ HB GE580) hb); clear hb; (try clear ho0)) | ((with_reducible refine gate_callee (f := 14) rfl ?_); refine gL_ (some 81) Tryd.func14 #[.slice Ao51 t593.length co51] ?_; (with_reducible refine (spec_UnpackTree.calls kj20 _ _ t593 t600 t601 _ ?side1 ?side2 A43.out).mono ?_); (case side1 => exact cR_ HO595); (case side2 => exact (Kd.R_reads' HO595.out).2.1); rintro e w53 ⟨v602, rfl, ho0, hb⟩; refine ⟨_, rfl, ?_⟩; replace HO595 := Aside0.mk (Kd.R_below (kr_ HO595) hb); have HO603 := Aside0.mk (Kd.R_lower (Kd.R_newB (Kd.R_new' (Kd.R_new' ho0 (Kd.R_lt (kr_ HO_5))) (Kd.R_lt (kr_ HO599))) (g := gb580) (o := .cells #[.string t576, .int .i64 t577, .string t578, .bool t579] 29 (0, 0)) (bk_ BK580)) (below_size (bw1_ HB GE580))); replace HO_5 := Aside0.mk (Kd.R_elder' (kr_ HO_5) (Kd.R_base ho0) hb); replace HO599 := Aside0.mk (Kd.R_elder' (kr_ HO599) (Kd.R_base ho0) hb); replace BK580 := Aside0.mk (blk_below (bk_ BK580) hb); replace HB := Aside0.mk (below_step (bw1_ HB GE580) hb); clear hb; (try clear ho0)))
     (try simp only [Act.put, List.setIfInBounds_toArray, List.set_cons_zero, List.set_cons_succ])
     go_cut [95] (fun v95 wc => ∃ (kq : Nat) (x95_48 : Bool), v95 = .bool x95_48 ∧ Aside0 (laws_FnTreeBack.j2 kq t573 x95_48 t576 t577 t578 t579 = some r) ∧ Aside0 (kq ≤ kj20) ∧ Aside0 (Kd.R k29 29 wc w.heap.size (fun k_ => k_ ≠ gb580) (.slice Ao25 t573.length co25) t573) ∧ Aside0 (wc.heap[gb580]? = some (.cells #[.string t576, .int .i64 t577, .string t578, .bool t579] 29 (0, 0))) ∧ Aside0 (Below w.heap.size w wc))
     case first =>
      have H := HC49.out
      clear HC49
      by_cases c54 : t597 = true
      {
      subst c54
      rw [if_pos rfl] at H
      replace H := Option.bind_eq_some_iff.mp H
      obtain ⟨t604, A550, H⟩ := H
      have A55 := Aside0.mk A550
      clear A550
      have H' := Aside0.mk H
      clear H
      obtain ⟨Ao56, co56, eo56⟩ := Kd.R_slice HO599.out
      subst eo56
      try go_wp2
      replace HO_5 := Aside0.mk (Kd.R_drew HO_5.out)
      replace HO595 := Aside0.mk (Kd.R_drew HO595.out)
      replace HO599 := Aside0.mk (Kd.R_drew HO599.out)
      replace HO603 := Aside0.mk (Kd.R_drew HO603.out)
      replace BK580 := Aside0.mk (blk_drew BK580.out)
      replace HB := Aside0.mk (below_drew1 HB.out)
      refine start_ (n := 9) (S := fun w' => (convert 22 9 (.slice Ao51 t593.length co51)).run Tryd.prog w' = .ok (.string (strOfNums t593)) w') (ds := []) (bs_ 9 0) (by kernel_rfl) rfl (by kernel_rfl) (own_string (P := Tryd.prog) Tryd.underlying22 Tryd.underlying5 Tryd.underlying9 (Kd.own_of_R HO595.out)) (fun hHeld => ?_); refine with_tabW laws_FnTreeBack.tab18 laws_FnTreeBack.bits18 (fun HT_ HW_ => ?_)
      generalize w53.drew = w57 at HO_5 HO595 HO599 HO603 BK580 HB hHeld ⊢
      refine pS_ 0 ?_
      refine pS_ 1 ?_
      refine pS_ 2 ?_
      refine pS_ 5 ?_
      refine t1_ 6 hHeld ?_
      refine oS_ 3 (fun K hK => ?_)
      refine gS_ Tryd.func6 #[.slice Ao56 t596.length co56] ?_
      with_reducible refine (impl_PackTree.calls kj20 _ _ t596 t604 _ ?side1 ?side2 ?side3 A55.out).mono ?_
      (case side1 => refine EnvW.below HE.out ?_; exact bw1_ HB GE580)
      (case side2 => exact cR_ HO599)
      (case side3 => exact (Kd.R_reads' HO599.out).2.1)
      rintro e w58 ⟨v605, rfl, ho0, hb⟩
      refine ⟨_, rfl, ?_⟩
      replace HO_5 := Aside0.mk (Kd.R_below (kr_ HO_5) hb)
      replace HO599 := Aside0.mk (Kd.R_below (kr_ HO599) hb)
      replace HO603 := Aside0.mk (Kd.R_below (kr_ HO603) hb)
      have HO606 := Aside0.mk (Kd.R_lower (Kd.R_new' ho0 (Kd.R_lt (kr_ HO595))) (below_size (bw1_ HB GE580)))
      replace HO595 := Aside0.mk (Kd.R_elder' (kr_ HO595) (Kd.R_base ho0) hb)
      replace BK580 := Aside0.mk (blk_below (bk_ BK580) hb)
      replace HB := Aside0.mk (below_step (bw1_ HB GE580) hb)
      (try clear hb)
      (try clear hb2)
      (try clear hk)
      (try clear hi)
      (try clear ho0)
      refine hK.out _ _ (own_string (P := Tryd.prog) Tryd.underlying22 Tryd.underlying5 Tryd.underlying9 (Kd.own_of_R HO595.out)) (fun hHeld => ?_)
      clear hK K
      refine nS_ 90 ?_
      refine oS_ 4 (fun K hK => ?_)
      have hcv59 := own_string (P := Tryd.prog) Tryd.underlying22 Tryd.underlying5 Tryd.underlying9 (Kd.own_of_R HO606.out)
      refine value_ (w1 := ?_) (v := ?_) (by rfl) rfl ?_ ?_
      rotate_left 2
      {
      go_simp
      constructor
      {
      rfl}
      {
      rfl}}
      clear hcv59
      refine hK.out _ _ (own_string (P := Tryd.prog) Tryd.underlying22 Tryd.underlying5 Tryd.underlying9 (Kd.own_of_R HO595.out)) (fun hHeld => ?_)
      clear hK K
      refine nS_ 91 ?_
      refine pS_ 7 ?_
      refine pS_ 8 ?_
      refine done_ (done_of HT_.out (by kernel_rfl)) ?_
      try go_wp2
      go_meet
      case rel => exact ⟨_, (((strOfNums t604).toList != (strOfNums t593).toList)), (by first | rfl | (simp; done) | (simp [*]; done)), H', ⟨by have := HJ5.out; have := HJ20.out; first | omega | exact Nat.le_refl _⟩, ⟨by (with_reducible repeat (first | apply Kd.R_alloc | apply Kd.R_drewN | apply Kd.R_drew)); exact Kd.R_mono HO_5.out (fun _ hk => by first | exact hk.2.2 | exact hk.1.1)⟩, ⟨bk_ BK580⟩, ⟨bw1_ HB GE580⟩⟩}
      {
      replace c54 := Bool.eq_false_iff.mpr c54
      subst c54
      rw [if_neg (show ¬ (false = true) by decide)] at H
      have H' := Aside0.mk H
      clear H
      try go_wp2
      replace HO_5 := Aside0.mk (Kd.R_drew HO_5.out)
      replace HO595 := Aside0.mk (Kd.R_drew HO595.out)
      replace HO599 := Aside0.mk (Kd.R_drew HO599.out)
      replace HO603 := Aside0.mk (Kd.R_drew HO603.out)
      replace BK580 := Aside0.mk (blk_drew BK580.out)
      replace HB := Aside0.mk (below_drew1 HB.out)
      refine start_ (n := 9) (S := fun w' => True) (ds := []) (bs_ 9 0) (by kernel_rfl) rfl (by kernel_rfl) trivial (fun hHeld => ?_); refine with_tabW laws_FnTreeBack.tab18 laws_FnTreeBack.bits18 (fun HT_ HW_ => ?_)
      generalize w53.drew = w62 at HO_5 HO595 HO599 HO603 BK580 HB hHeld ⊢
      refine pS_ 0 ?_
      refine pS_ 1 ?_
      refine pU_ 2 ?_
      refine pU_ 3 ?_
      refine pU_ 4 ?_
      refine pU_ 5 ?_
      refine pU_ 6 ?_
      refine pU_ 7 ?_
      refine pS_ 8 ?_
      refine done_ (done_of HT_.out (by kernel_rfl)) ?_
      try go_wp2
      go_meet
      case rel => exact ⟨_, (false), (by first | rfl | (simp; done) | (simp [*]; done)), H', ⟨by have := HJ5.out; have := HJ20.out; first | omega | exact Nat.le_refl _⟩, ⟨by (with_reducible repeat (first | apply Kd.R_alloc | apply Kd.R_drewN | apply Kd.R_drew)); exact Kd.R_mono HO_5.out (fun _ hk => hk.1.1)⟩, ⟨bk_ BK580⟩, ⟨bw1_ HB GE580⟩⟩}
     case rest =>
      clear HC49
      try clear c1
      try clear p2
      try clear c3
      try clear c4
      try clear c5
      try clear hcv5
      try clear c6
      try clear hcv6
      try clear c7
      try clear c8
      try clear c13
      try clear c14
      try clear c15
      try clear c19
      try clear c30
      try clear c32
      try clear c40
      try clear c44
      try clear c44b0
      try clear c44b1
      try clear c44b2
      try clear c54
      try clear hcv59
      try clear hcv60
      try clear hcz24_0 hcz24_1 hcz24_2 hcz24_3
      try clear hfz24_0 hfz24_1 hfz24_2 hfz24_3
      try clear p2
      obtain ⟨kq, x95_48, rfl, HA, HJ48, HO_5, BK580, HB⟩ := hcut
      cases kq with
      | zero => exact absurd HA.out (by simp [laws_FnTreeBack.j2])
      | succ kj48 =>
       have H := HA.out
       clear HA
       simp only [laws_FnTreeBack.j2] at H
       by_cases c63 : x95_48 = true
       {
       subst c63
       rw [if_pos rfl] at H
       obtain rfl := Option.some.inj H
       go_wp2
       go_ret
       exact ⟨eR_, bw1_ HB GE580⟩}
       {
       replace c63 := Bool.eq_false_iff.mpr c63
       subst c63
       rw [if_neg (show ¬ (false = true) by decide)] at H
       replace H := Option.bind_eq_some_iff.mp H
       obtain ⟨t607, A640, H⟩ := H
       have A64 := Aside0.mk A640
       clear A640
       replace H := Option.bind_eq_some_iff.mp H
       obtain ⟨⟨t608, t611⟩, A650, H⟩ := H
       have A65 := Aside0.mk A650
       clear A650
       replace H := Option.bind_eq_some_iff.mp H
       obtain ⟨⟨t612, t615⟩, A660, H⟩ := H
       have A66 := Aside0.mk A660
       clear A660
       by_cases c67 : (t611 != t615) = true
       {
       rw [if_pos c67] at H
       have c67b0 : (t611 != t615) = true := c67
       (try (have c67b1 : decide (t611 = t615) = false := by simpa using c67))
       (try (have c67b2 : (t611 == t615) = false := by simpa using c67))
       (try (have c67b3 : ¬ (t611 = t615) := by simpa using c67))
       clear c67
       obtain rfl := Option.some.inj H
       obtain ⟨hcz68_0, hcz68_1, hcz68_2, hcz68_3, hfz68_0, hfz68_1, hfz68_2, hfz68_3⟩ := zc4_ BK580
       go_wp2_with (first | ((with_reducible refine gate_callee (f := 15) rfl ?_); refine gL_ (some 99) Tryd.func15 #[.slice Ao25 t573.length co25, .string t576] ?_; (with_reducible refine (impl_FindEntry.calls kj48 _ _ t573 t576 t607 _ ?side1 ?side2 ?side3 A64.out).mono ?_); (case side1 => refine EnvW.below HE.out ?_; exact bw1_ HB GE580); (case side2 => exact cR_ HO_5); (case side3 => exact (Kd.R_reads' HO_5.out).2.1); rintro e w69 ⟨rfl, hb⟩; refine ⟨_, rfl, ?_⟩; replace HO_5 := Aside0.mk (Kd.R_below (kr_ HO_5) hb); replace BK580 := Aside0.mk (blk_below (bk_ BK580) hb); replace HB := Aside0.mk (below_step (bw1_ HB GE580) hb); clear hb; obtain ⟨hcz70_0, hcz70_1, hcz70_2, hcz70_3, hfz70_0, hfz70_1, hfz70_2, hfz70_3⟩ := zc4_ BK580) | ((with_reducible refine gate_callee (f := 16) rfl ?_); refine gL_ (some 103) Tryd.func16 #[.slice Ao25 t573.length co25, .agg #[.string t576, .int .i64 t577, .string t578, .bool t579]] ?_; (with_reducible refine (impl_PutEntry.calls kj48 _ _ t573 t576 t577 t578 t579 t608 t611 _ ?side1 ?side2 ?side3 A65.out).mono ?_); (case side1 => refine EnvW.below HE.out ?_; exact bw1_ HB GE580); (case side2 => exact cR_ HO_5); (case side3 => exact (Kd.R_reads' HO_5.out).2.1); rintro e w71 ⟨v609, rfl, ho0, hb⟩; refine ⟨_, rfl, ?_⟩; have HO610 := Aside0.mk (Kd.R_lower (Kd.R_newB (Kd.R_new' ho0 (Kd.R_lt (kr_ HO_5))) (g := gb580) (o := .cells #[.string t576, .int .i64 t577, .string t578, .bool t579] 29 (0, 0)) (bk_ BK580)) (below_size (bw1_ HB GE580))); replace HO_5 := Aside0.mk (Kd.R_elder' (kr_ HO_5) (Kd.R_base ho0) hb); replace BK580 := Aside0.mk (blk_below (bk_ BK580) hb); replace HB := Aside0.mk (below_step (bw1_ HB GE580) hb); clear hb; (try clear ho0); obtain ⟨hcz72_0, hcz72_1, hcz72_2, hcz72_3, hfz72_0, hfz72_1, hfz72_2, hfz72_3⟩ := zc4_ BK580) | ((with_reducible refine gate_callee (f := 17) rfl ?_); refine gL_ (some 109) Tryd.func17 #[.slice Ao25 t573.length co25, .agg #[.string t576, .int .i64 t577, .string t578, .bool t579]] ?_; (with_reducible refine (spec_PutEntry.calls kj48 _ _ t573 t576 t577 t578 t579 t612 t615 _ ?side1 ?side2 A66.out).mono ?_); (case side1 => exact cR_ HO_5); (case side2 => exact (Kd.R_reads' HO_5.out).2.1); rintro e w73 ⟨v613, rfl, ho0, hb⟩; refine ⟨_, rfl, ?_⟩; have HO614 := Aside0.mk (Kd.R_lower (Kd.R_newB (Kd.R_new' (Kd.R_new' ho0 (Kd.R_lt (kr_ HO_5))) (Kd.R_lt (kr_ HO610))) (g := gb580) (o := .cells #[.string t576, .int .i64 t577, .string t578, .bool t579] 29 (0, 0)) (bk_ BK580)) (below_size (bw1_ HB GE580))); replace HO_5 := Aside0.mk (Kd.R_elder' (kr_ HO_5) (Kd.R_base ho0) hb); replace HO610 := Aside0.mk (Kd.R_elder' (kr_ HO610) (Kd.R_base ho0) hb); replace BK580 := Aside0.mk (blk_below (bk_ BK580) hb); replace HB := Aside0.mk (below_step (bw1_ HB GE580) hb); clear hb; (try clear ho0)))
       go_ret
       exact ⟨eR_, bw1_ HB GE580⟩}
       {
       rw [if_neg c67] at H
       have c67b0 : (t611 != t615) = false := by simpa using c67
       (try (have c67b1 : decide (t611 = t615) = true := by simpa using c67))
       (try (have c67b2 : (t611 == t615) = true := by simpa using c67))
       clear c67
       by_cases c74 : t611 = true
       {
       subst c74
       rw [if_pos rfl] at H
       replace H := Option.bind_eq_some_iff.mp H
       obtain ⟨t617, A750, H⟩ := H
       have A75 := Aside0.mk A750
       clear A750
       have HC76 := Aside0.mk H
       clear H
       obtain ⟨hcz77_0, hcz77_1, hcz77_2, hcz77_3, hfz77_0, hfz77_1, hfz77_2, hfz77_3⟩ := zc4_ BK580
       go_upto_region 28 with (first | ((with_reducible refine gate_callee (f := 15) rfl ?_); refine gL_ (some 99) Tryd.func15 #[.slice Ao25 t573.length co25, .string t576] ?_; (with_reducible refine (impl_FindEntry.calls kj48 _ _ t573 t576 t607 _ ?side1 ?side2 ?side3 A64.out).mono ?_); (case side1 => refine EnvW.below HE.out ?_; exact bw1_ HB GE580); (case side2 => exact cR_ HO_5); (case side3 => exact (Kd.R_reads' HO_5.out).2.1); rintro e w78 ⟨rfl, hb⟩; refine ⟨_, rfl, ?_⟩; replace HO_5 := Aside0.mk (Kd.R_below (kr_ HO_5) hb); replace BK580 := Aside0.mk (blk_below (bk_ BK580) hb); replace HB := Aside0.mk (below_step (bw1_ HB GE580) hb); clear hb; obtain ⟨hcz79_0, hcz79_1, hcz79_2, hcz79_3, hfz79_0, hfz79_1, hfz79_2, hfz79_3⟩ := zc4_ BK580) | ((with_reducible refine gate_callee (f := 16) rfl ?_); refine gL_ (some 103) Tryd.func16 #[.slice Ao25 t573.length co25, .agg #[.string t576, .int .i64 t577, .string t578, .bool t579]] ?_; (with_reducible refine (impl_PutEntry.calls kj48 _ _ t573 t576 t577 t578 t579 t608 true _ ?side1 ?side2 ?side3 A65.out).mono ?_); (case side1 => refine EnvW.below HE.out ?_; exact bw1_ HB GE580); (case side2 => exact cR_ HO_5); (case side3 => exact (Kd.R_reads' HO_5.out).2.1); rintro e w80 ⟨v609, rfl, ho0, hb⟩; refine ⟨_, rfl, ?_⟩; have HO610 := Aside0.mk (Kd.R_lower (Kd.R_newB (Kd.R_new' ho0 (Kd.R_lt (kr_ HO_5))) (g := gb580) (o := .cells #[.string t576, .int .i64 t577, .string t578, .bool t579] 29 (0, 0)) (bk_ BK580)) (below_size (bw1_ HB GE580))); replace HO_5 := Aside0.mk (Kd.R_elder' (kr_ HO_5) (Kd.R_base ho0) hb); replace BK580 := Aside0.mk (blk_below (bk_ BK580) hb); replace HB := Aside0.mk (below_step (bw1_ HB GE580) hb); clear hb; (try clear ho0); obtain ⟨hcz81_0, hcz81_1, hcz81_2, hcz81_3, hfz81_0, hfz81_1, hfz81_2, hfz81_3⟩ := zc4_ BK580) | ((with_reducible refine gate_callee (f := 17) rfl ?_); refine gL_ (some 109) Tryd.func17 #[.slice Ao25 t573.length co25, .agg #[.string t576, .int .i64 t577, .string t578, .bool t579]] ?_; (with_reducible refine (spec_PutEntry.calls kj48 _ _ t573 t576 t577 t578 t579 t612 t615 _ ?side1 ?side2 A66.out).mono ?_); (case side1 => exact cR_ HO_5); (case side2 => exact (Kd.R_reads' HO_5.out).2.1); rintro e w82 ⟨v613, rfl, ho0, hb⟩; refine ⟨_, rfl, ?_⟩; have HO614 := Aside0.mk (Kd.R_lower (Kd.R_newB (Kd.R_new' (Kd.R_new' ho0 (Kd.R_lt (kr_ HO_5))) (Kd.R_lt (kr_ HO610))) (g := gb580) (o := .cells #[.string t576, .int .i64 t577, .string t578, .bool t579] 29 (0, 0)) (bk_ BK580)) (below_size (bw1_ HB GE580))); replace HO_5 := Aside0.mk (Kd.R_elder' (kr_ HO_5) (Kd.R_base ho0) hb); replace HO610 := Aside0.mk (Kd.R_elder' (kr_ HO610) (Kd.R_base ho0) hb); replace BK580 := Aside0.mk (blk_below (bk_ BK580) hb); replace HB := Aside0.mk (below_step (bw1_ HB GE580) hb); clear hb; (try clear ho0); obtain ⟨hcz83_0, hcz83_1, hcz83_2, hcz83_3, hfz83_0, hfz83_1, hfz83_2, hfz83_3⟩ := zc4_ BK580; obtain ⟨Ao84, co84, eo84⟩ := Kd.R_slice HO610.out; subst eo84) | ((with_reducible refine gate_callee (f := 15) rfl ?_); refine gL_ (some 123) Tryd.func15 #[.slice Ao84 t608.length co84, .string t576] ?_; (with_reducible refine (impl_FindEntry.calls kj48 _ _ t608 t576 t617 _ ?side1 ?side2 ?side3 A75.out).mono ?_); (case side1 => refine EnvW.below HE.out ?_; exact bw1_ HB GE580); (case side2 => exact cR_ HO610); (case side3 => exact (Kd.R_reads' HO610.out).2.1); rintro e w85 ⟨rfl, hb⟩; refine ⟨_, rfl, ?_⟩; replace HO_5 := Aside0.mk (Kd.R_below (kr_ HO_5) hb); replace HO610 := Aside0.mk (Kd.R_below (kr_ HO610) hb); replace HO614 := Aside0.mk (Kd.R_below (kr_ HO614) hb); replace BK580 := Aside0.mk (blk_below (bk_ BK580) hb); replace HB := Aside0.mk (below_step (bw1_ HB GE580) hb); clear hb))
       (try simp only [Act.put, List.setIfInBounds_toArray, List.set_cons_zero, List.set_cons_succ])
       go_cut [150] (fun v150 wc => ∃ (kq : Nat) (x150_75 : Bool), v150 = .bool x150_75 ∧ Aside0 (laws_FnTreeBack.j3 kq t573 t607 t608 x150_75 t576 t577 t578 t579 = some r) ∧ Aside0 (kq ≤ kj48) ∧ Aside0 (Kd.R k29 29 wc w.heap.size (fun k_ => some k_ ≠ ((.slice Ao84 t608.length co84) : Value).ownBlock ∧ k_ ≠ gb580) (.slice Ao25 t573.length co25) t573) ∧ Aside0 (Kd.R k29 29 wc w.heap.size (fun k_ => some k_ ≠ ((.slice Ao25 t573.length co25) : Value).ownBlock ∧ k_ ≠ gb580) (.slice Ao84 t608.length co84) t608) ∧ Aside0 (wc.heap[gb580]? = some (.cells #[.string t576, .int .i64 t577, .string t578, .bool t579] 29 (0, 0))) ∧ Aside0 (Below w.heap.size w wc))
       case first =>
        have H := HC76.out
        clear HC76
        replace H := Option.bind_eq_some_iff.mp H
        obtain ⟨t618, A860, H⟩ := H
        have A86 := Aside0.mk A860
        clear A860
        by_cases c87 : t618 = true
        {
        subst c87
        rw [if_pos rfl] at H
        by_cases c88 : t617 < 0
        {
        rw [if_pos c88] at H
        have c88b0 := decide_eq_true c88
        clear c88
        (first | rw [c88b0] | (simp only [i64_w, i32_w]; rw [c88b0]) | skip)
        have H' := Aside0.mk H
        clear H
        try go_wp2
        replace HO_5 := Aside0.mk (Kd.R_drew HO_5.out)
        replace HO610 := Aside0.mk (Kd.R_drew HO610.out)
        replace HO614 := Aside0.mk (Kd.R_drew HO614.out)
        replace BK580 := Aside0.mk (blk_drew BK580.out)
        replace HB := Aside0.mk (below_drew1 HB.out)
        refine start_ (n := 27) (S := fun w' => True) (ds := []) (bs_ 27 0) (by kernel_rfl) rfl (by kernel_rfl) trivial (fun hHeld => ?_); refine with_tabW laws_FnTreeBack.tab28 laws_FnTreeBack.bits28 (fun HT_ HW_ => ?_)
        generalize w85.drew = w89 at HO_5 HO610 HO614 BK580 HB hHeld ⊢
        refine pS_ 0 ?_
        refine oS_ 1 (fun K hK => ?_)
        refine gS_ Tryd.func8 #[.slice Ao84 t608.length co84] ?_
        with_reducible refine (spec_TreeOk.calls kj48 _ _ t608 true _ ?side1 ?side2 A86.out).mono ?_
        (case side1 => exact cR_ HO610)
        (case side2 => exact (Kd.R_reads' HO610.out).2.1)
        rintro e w90 ⟨rfl, hb⟩
        refine ⟨_, rfl, ?_⟩
        replace HO_5 := Aside0.mk (Kd.R_below (kr_ HO_5) hb)
        replace HO610 := Aside0.mk (Kd.R_below (kr_ HO610) hb)
        replace HO614 := Aside0.mk (Kd.R_below (kr_ HO614) hb)
        replace BK580 := Aside0.mk (blk_below (bk_ BK580) hb)
        replace HB := Aside0.mk (below_step (bw1_ HB GE580) hb)
        (try clear hb)
        (try clear hb2)
        (try clear hk)
        (try clear hi)
        refine hK.out _ _ trivial (fun hHeld => ?_)
        clear hK K
        refine nS_ 125 ?_
        refine pS_ 2 ?_
        refine pS_ 3 ?_
        refine pS_ 4 ?_
        refine pS_ 5 ?_
        refine pS_ 6 ?_
        refine pS_ 7 ?_
        refine pU_ 8 ?_
        refine pU_ 9 ?_
        refine pU_ 10 ?_
        refine pU_ 11 ?_
        refine pU_ 12 ?_
        refine pU_ 13 ?_
        refine pS_ 14 ?_
        refine pS_ 15 ?_
        refine pU_ 16 ?_
        refine pU_ 17 ?_
        refine pU_ 18 ?_
        refine pU_ 19 ?_
        refine pU_ 20 ?_
        refine pU_ 21 ?_
        refine pU_ 22 ?_
        refine pU_ 23 ?_
        refine pU_ 24 ?_
        refine pU_ 25 ?_
        refine pS_ 26 ?_
        refine done_ (done_of HT_.out (by kernel_rfl)) ?_
        try go_wp2
        go_meet
        case rel => exact ⟨_, (true), (by first | rfl | (simp; done) | (simp [*]; done)), H', ⟨by have := HJ5.out; have := HJ20.out; have := HJ48.out; first | omega | exact Nat.le_refl _⟩, ⟨by (with_reducible repeat (first | apply Kd.R_alloc | apply Kd.R_drewN | apply Kd.R_drew)); exact Kd.R_mono HO_5.out (fun _ hk => ⟨hk.1.2, hk.1.1⟩)⟩, ⟨by (with_reducible repeat (first | apply Kd.R_alloc | apply Kd.R_drewN | apply Kd.R_drew)); exact Kd.R_mono HO610.out (fun _ hk => ⟨hk.1.1.2, hk.1.2⟩)⟩, ⟨bk_ BK580⟩, ⟨bw1_ HB GE580⟩⟩}
        {
        rw [if_neg c88] at H
        have c88b0 := decide_eq_false c88
        clear c88
        (first | rw [c88b0] | (simp only [i64_w, i32_w]; rw [c88b0]) | skip)
        by_cases c91 : 0 ≤ t617
        {
        rw [if_pos c91] at H
        have c91b0 := decide_eq_true c91
        clear c91
        by_cases c92 : t617 < (t608.length : Int)
        {
        rw [if_pos c92] at H
        have c92b0 := decide_eq_true c92
        clear c92
        by_cases c93 : (!((((rd_T29 t608 t617).f0).toList) == t576.toList) || (!(((rd_T29 t608 t617).f1) == t577) || (!((((rd_T29 t608 t617).f2).toList) == t578.toList) || (!(((rd_T29 t608 t617).f3) == t579))))) = true
        {
        rw [if_pos c93] at H
        have c93b0 : (!((((rd_T29 t608 t617).f0).toList) == t576.toList) || (!(((rd_T29 t608 t617).f1) == t577) || (!((((rd_T29 t608 t617).f2).toList) == t578.toList) || (!(((rd_T29 t608 t617).f3) == t579))))) = true := c93
        clear c93
        have H' := Aside0.mk H
        clear H
        try go_wp2
        replace HO_5 := Aside0.mk (Kd.R_drew HO_5.out)
        replace HO610 := Aside0.mk (Kd.R_drew HO610.out)
        replace HO614 := Aside0.mk (Kd.R_drew HO614.out)
        replace BK580 := Aside0.mk (blk_drew BK580.out)
        replace HB := Aside0.mk (below_drew1 HB.out)
        have p619 : 0 ≤ (t617 : Int) := dA_
        have q619 : t617 < (t608.length : Int) := dA_
        obtain ⟨ad619, e619, hx619_0, hx619_1, hx619_2, hx619_3⟩ := at_T29 (Kd.R_reads' HO610.out).2.2 t617 p619 q619
        cases e619
        replace p619 := eq_true p619
        replace q619 := eq_true q619
        refine start_ (n := 27) (S := fun w' => w'.cell? ⟨gb580, 0, none⟩ = some (.string t576) ∧ w'.cell? ⟨gb580, 1, none⟩ = some (.int .i64 t577) ∧ w'.cell? ⟨gb580, 2, none⟩ = some (.string t578) ∧ w'.cell? ⟨gb580, 3, none⟩ = some (.bool t579) ∧ w'.cell? (ad619.add ((t617).toNat * 4)) = some (.string ((rd_T29 t608 t617).f0)) ∧ w'.cell? ⟨(ad619.add ((t617).toNat * 4)).block, (ad619.add ((t617).toNat * 4)).off + 1, none⟩ = some (.int .i64 ((rd_T29 t608 t617).f1)) ∧ w'.cell? ⟨(ad619.add ((t617).toNat * 4)).block, (ad619.add ((t617).toNat * 4)).off + 2, none⟩ = some (.string ((rd_T29 t608 t617).f2)) ∧ w'.cell? ⟨(ad619.add ((t617).toNat * 4)).block, (ad619.add ((t617).toNat * 4)).off + 3, none⟩ = some (.bool ((rd_T29 t608 t617).f3))) (ds := []) (bs_ 27 0) (by kernel_rfl) rfl (by kernel_rfl) ⟨(blk_cell BK580.out 0).trans rfl, (blk_cell BK580.out 1).trans rfl, (blk_cell BK580.out 2).trans rfl, (blk_cell BK580.out 3).trans rfl, hx619_0, hx619_1, hx619_2, hx619_3⟩ (fun hHeld => ?_); refine with_tabW laws_FnTreeBack.tab28 laws_FnTreeBack.bits28 (fun HT_ HW_ => ?_)
        generalize w85.drew = w94 at HO_5 HO610 HO614 BK580 HB hx619_0 hx619_1 hx619_2 hx619_3 hHeld ⊢
        refine pS_ 0 ?_
        refine oS_ 1 (fun K hK => ?_)
        refine gS_ Tryd.func8 #[.slice (some ad619) t608.length co84] ?_
        with_reducible refine (spec_TreeOk.calls kj48 _ _ t608 true _ ?side1 ?side2 A86.out).mono ?_
        (case side1 => exact cR_ HO610)
        (case side2 => exact (Kd.R_reads' HO610.out).2.1)
        rintro e w95 ⟨rfl, hb⟩
        have HS4_ := (hb.cell (World.block_lt_of_cell? _ _ (hHeld.2.2.2.2.1))).trans (hHeld.2.2.2.2.1)
        have HS5_ := (hb.cell (World.block_lt_of_cell? _ _ (hHeld.2.2.2.2.2.1))).trans (hHeld.2.2.2.2.2.1)
        have HS6_ := (hb.cell (World.block_lt_of_cell? _ _ (hHeld.2.2.2.2.2.2.1))).trans (hHeld.2.2.2.2.2.2.1)
        have HS7_ := (hb.cell (World.block_lt_of_cell? _ _ (hHeld.2.2.2.2.2.2.2))).trans (hHeld.2.2.2.2.2.2.2)
        refine ⟨_, rfl, ?_⟩
        replace HO_5 := Aside0.mk (Kd.R_below (kr_ HO_5) hb)
        replace HO610 := Aside0.mk (Kd.R_below (kr_ HO610) hb)
        replace HO614 := Aside0.mk (Kd.R_below (kr_ HO614) hb)
        replace BK580 := Aside0.mk (blk_below (bk_ BK580) hb)
        replace HB := Aside0.mk (below_step (bw1_ HB GE580) hb)
        (try clear hb)
        (try clear hb2)
        (try clear hk)
        (try clear hi)
        refine hK.out _ _ ⟨(blk_cell BK580.out 0).trans rfl, (blk_cell BK580.out 1).trans rfl, (blk_cell BK580.out 2).trans rfl, (blk_cell BK580.out 3).trans rfl, HS4_, HS5_, HS6_, HS7_⟩ (fun hHeld => ?_)
        clear hK K
        refine nS_ 125 ?_
        refine pS_ 2 ?_
        refine pS_ 3 ?_
        refine pS_ 4 ?_
        refine pS_ 5 ?_
        refine pS_ 6 ?_
        refine pS_ 7 ?_
        refine pS_ 8 ?_
        refine pS_ 9 ?_
        refine pS_ 10 ?_
        refine t8_ 11 hHeld ?_
        refine t8_ 12 hHeld ?_
        refine pS_ 13 ?_
        refine pS_ 14 ?_
        refine pS_ 15 ?_
        refine pU_ 16 ?_
        refine pU_ 17 ?_
        refine pU_ 18 ?_
        refine pU_ 19 ?_
        refine pU_ 20 ?_
        refine pU_ 21 ?_
        refine pU_ 22 ?_
        refine pU_ 23 ?_
        refine pU_ 24 ?_
        refine pU_ 25 ?_
        refine pS_ 26 ?_
        refine done_ (done_of HT_.out (by kernel_rfl)) ?_
        try go_wp2
        go_meet
        case rel => exact ⟨_, (true), (by first | rfl | (simp; done) | (simp [*]; done)), H', ⟨by have := HJ5.out; have := HJ20.out; have := HJ48.out; first | omega | exact Nat.le_refl _⟩, ⟨by (with_reducible repeat (first | apply Kd.R_alloc | apply Kd.R_drewN | apply Kd.R_drew)); exact Kd.R_mono HO_5.out (fun _ hk => ⟨hk.1.2, hk.1.1⟩)⟩, ⟨by (with_reducible repeat (first | apply Kd.R_alloc | apply Kd.R_drewN | apply Kd.R_drew)); exact Kd.R_mono HO610.out (fun _ hk => ⟨hk.1.1.2, hk.1.2⟩)⟩, ⟨bk_ BK580⟩, ⟨bw1_ HB GE580⟩⟩}
        {
        rw [if_neg c93] at H
        have c93b0 : (!((((rd_T29 t608 t617).f0).toList) == t576.toList) || (!(((rd_T29 t608 t617).f1) == t577) || (!((((rd_T29 t608 t617).f2).toList) == t578.toList) || (!(((rd_T29 t608 t617).f3) == t579))))) = false := by simpa using c93
        clear c93
        by_cases c96 : t607 < 0
        {
        rw [if_pos c96] at H
        have c96b0 := decide_eq_true c96
        clear c96
        have H' := Aside0.mk H
        clear H
        try go_wp2
        replace HO_5 := Aside0.mk (Kd.R_drew HO_5.out)
        replace HO610 := Aside0.mk (Kd.R_drew HO610.out)
        replace HO614 := Aside0.mk (Kd.R_drew HO614.out)
        replace BK580 := Aside0.mk (blk_drew BK580.out)
        replace HB := Aside0.mk (below_drew1 HB.out)
        have p619 : 0 ≤ (t617 : Int) := dA_
        have q619 : t617 < (t608.length : Int) := dA_
        obtain ⟨ad619, e619, hx619_0, hx619_1, hx619_2, hx619_3⟩ := at_T29 (Kd.R_reads' HO610.out).2.2 t617 p619 q619
        cases e619
        replace p619 := eq_true p619
        replace q619 := eq_true q619
        refine start_ (n := 27) (S := fun w' => w'.cell? ⟨gb580, 0, none⟩ = some (.string t576) ∧ w'.cell? ⟨gb580, 1, none⟩ = some (.int .i64 t577) ∧ w'.cell? ⟨gb580, 2, none⟩ = some (.string t578) ∧ w'.cell? ⟨gb580, 3, none⟩ = some (.bool t579) ∧ w'.cell? (ad619.add ((t617).toNat * 4)) = some (.string ((rd_T29 t608 t617).f0)) ∧ w'.cell? ⟨(ad619.add ((t617).toNat * 4)).block, (ad619.add ((t617).toNat * 4)).off + 1, none⟩ = some (.int .i64 ((rd_T29 t608 t617).f1)) ∧ w'.cell? ⟨(ad619.add ((t617).toNat * 4)).block, (ad619.add ((t617).toNat * 4)).off + 2, none⟩ = some (.string ((rd_T29 t608 t617).f2)) ∧ w'.cell? ⟨(ad619.add ((t617).toNat * 4)).block, (ad619.add ((t617).toNat * 4)).off + 3, none⟩ = some (.bool ((rd_T29 t608 t617).f3))) (ds := []) (bs_ 27 0) (by kernel_rfl) rfl (by kernel_rfl) ⟨(blk_cell BK580.out 0).trans rfl, (blk_cell BK580.out 1).trans rfl, (blk_cell BK580.out 2).trans rfl, (blk_cell BK580.out 3).trans rfl, hx619_0, hx619_1, hx619_2, hx619_3⟩ (fun hHeld => ?_); refine with_tabW laws_FnTreeBack.tab28 laws_FnTreeBack.bits28 (fun HT_ HW_ => ?_)
        generalize w85.drew = w97 at HO_5 HO610 HO614 BK580 HB hx619_0 hx619_1 hx619_2 hx619_3 hHeld ⊢
        refine pS_ 0 ?_
        refine oS_ 1 (fun K hK => ?_)
        refine gS_ Tryd.func8 #[.slice (some ad619) t608.length co84] ?_
        with_reducible refine (spec_TreeOk.calls kj48 _ _ t608 true _ ?side1 ?side2 A86.out).mono ?_
        (case side1 => exact cR_ HO610)
        (case side2 => exact (Kd.R_reads' HO610.out).2.1)
        rintro e w98 ⟨rfl, hb⟩
        have HS4_ := (hb.cell (World.block_lt_of_cell? _ _ (hHeld.2.2.2.2.1))).trans (hHeld.2.2.2.2.1)
        have HS5_ := (hb.cell (World.block_lt_of_cell? _ _ (hHeld.2.2.2.2.2.1))).trans (hHeld.2.2.2.2.2.1)
        have HS6_ := (hb.cell (World.block_lt_of_cell? _ _ (hHeld.2.2.2.2.2.2.1))).trans (hHeld.2.2.2.2.2.2.1)
        have HS7_ := (hb.cell (World.block_lt_of_cell? _ _ (hHeld.2.2.2.2.2.2.2))).trans (hHeld.2.2.2.2.2.2.2)
        refine ⟨_, rfl, ?_⟩
        replace HO_5 := Aside0.mk (Kd.R_below (kr_ HO_5) hb)
        replace HO610 := Aside0.mk (Kd.R_below (kr_ HO610) hb)
        replace HO614 := Aside0.mk (Kd.R_below (kr_ HO614) hb)
        replace BK580 := Aside0.mk (blk_below (bk_ BK580) hb)
        replace HB := Aside0.mk (below_step (bw1_ HB GE580) hb)
        (try clear hb)
        (try clear hb2)
        (try clear hk)
        (try clear hi)
        refine hK.out _ _ ⟨(blk_cell BK580.out 0).trans rfl, (blk_cell BK580.out 1).trans rfl, (blk_cell BK580.out 2).trans rfl, (blk_cell BK580.out 3).trans rfl, HS4_, HS5_, HS6_, HS7_⟩ (fun hHeld => ?_)
        clear hK K
        refine nS_ 125 ?_
        refine pS_ 2 ?_
        refine pS_ 3 ?_
        refine pS_ 4 ?_
        refine pS_ 5 ?_
        refine pS_ 6 ?_
        refine pS_ 7 ?_
        refine pS_ 8 ?_
        refine pS_ 9 ?_
        refine pS_ 10 ?_
        refine t8_ 11 hHeld ?_
        refine t8_ 12 hHeld ?_
        refine pS_ 13 ?_
        refine pS_ 14 ?_
        refine pS_ 15 ?_
        refine pS_ 16 ?_
        refine pS_ 17 ?_
        refine pS_ 18 ?_
        refine pS_ 19 ?_
        refine pS_ 20 ?_
        refine pS_ 21 ?_
        refine pS_ 22 ?_
        refine pS_ 23 ?_
        refine pS_ 24 ?_
        refine pS_ 25 ?_
        refine pS_ 26 ?_
        refine done_ (done_of HT_.out (by kernel_rfl)) ?_
        try go_wp2
        go_meet
        case rel => exact ⟨_, (((t608.length : Int) != (wrap64 ((t573.length : Int) + 1)))), (by first | rfl | (simp; done) | (simp [*]; done)), H', ⟨by have := HJ5.out; have := HJ20.out; have := HJ48.out; first | omega | exact Nat.le_refl _⟩, ⟨by (with_reducible repeat (first | apply Kd.R_alloc | apply Kd.R_drewN | apply Kd.R_drew)); exact Kd.R_mono HO_5.out (fun _ hk => ⟨hk.1.2, hk.1.1⟩)⟩, ⟨by (with_reducible repeat (first | apply Kd.R_alloc | apply Kd.R_drewN | apply Kd.R_drew)); exact Kd.R_mono HO610.out (fun _ hk => ⟨hk.1.1.2, hk.1.2⟩)⟩, ⟨bk_ BK580⟩, ⟨bw1_ HB GE580⟩⟩}
        {
        rw [if_neg c96] at H
        have c96b0 := decide_eq_false c96
        clear c96
        have H' := Aside0.mk H
        clear H
        try go_wp2
        replace HO_5 := Aside0.mk (Kd.R_drew HO_5.out)
        replace HO610 := Aside0.mk (Kd.R_drew HO610.out)
        replace HO614 := Aside0.mk (Kd.R_drew HO614.out)
        replace BK580 := Aside0.mk (blk_drew BK580.out)
        replace HB := Aside0.mk (below_drew1 HB.out)
        have p619 : 0 ≤ (t617 : Int) := dA_
        have q619 : t617 < (t608.length : Int) := dA_
        obtain ⟨ad619, e619, hx619_0, hx619_1, hx619_2, hx619_3⟩ := at_T29 (Kd.R_reads' HO610.out).2.2 t617 p619 q619
        cases e619
        replace p619 := eq_true p619
        replace q619 := eq_true q619
        refine start_ (n := 27) (S := fun w' => w'.cell? ⟨gb580, 0, none⟩ = some (.string t576) ∧ w'.cell? ⟨gb580, 1, none⟩ = some (.int .i64 t577) ∧ w'.cell? ⟨gb580, 2, none⟩ = some (.string t578) ∧ w'.cell? ⟨gb580, 3, none⟩ = some (.bool t579) ∧ w'.cell? (ad619.add ((t617).toNat * 4)) = some (.string ((rd_T29 t608 t617).f0)) ∧ w'.cell? ⟨(ad619.add ((t617).toNat * 4)).block, (ad619.add ((t617).toNat * 4)).off + 1, none⟩ = some (.int .i64 ((rd_T29 t608 t617).f1)) ∧ w'.cell? ⟨(ad619.add ((t617).toNat * 4)).block, (ad619.add ((t617).toNat * 4)).off + 2, none⟩ = some (.string ((rd_T29 t608 t617).f2)) ∧ w'.cell? ⟨(ad619.add ((t617).toNat * 4)).block, (ad619.add ((t617).toNat * 4)).off + 3, none⟩ = some (.bool ((rd_T29 t608 t617).f3))) (ds := []) (bs_ 27 0) (by kernel_rfl) rfl (by kernel_rfl) ⟨(blk_cell BK580.out 0).trans rfl, (blk_cell BK580.out 1).trans rfl, (blk_cell BK580.out 2).trans rfl, (blk_cell BK580.out 3).trans rfl, hx619_0, hx619_1, hx619_2, hx619_3⟩ (fun hHeld => ?_); refine with_tabW laws_FnTreeBack.tab28 laws_FnTreeBack.bits28 (fun HT_ HW_ => ?_)
        generalize w85.drew = w99 at HO_5 HO610 HO614 BK580 HB hx619_0 hx619_1 hx619_2 hx619_3 hHeld ⊢
        refine pS_ 0 ?_
        refine oS_ 1 (fun K hK => ?_)
        refine gS_ Tryd.func8 #[.slice (some ad619) t608.length co84] ?_
        with_reducible refine (spec_TreeOk.calls kj48 _ _ t608 true _ ?side1 ?side2 A86.out).mono ?_
        (case side1 => exact cR_ HO610)
        (case side2 => exact (Kd.R_reads' HO610.out).2.1)
        rintro e w100 ⟨rfl, hb⟩
        have HS4_ := (hb.cell (World.block_lt_of_cell? _ _ (hHeld.2.2.2.2.1))).trans (hHeld.2.2.2.2.1)
        have HS5_ := (hb.cell (World.block_lt_of_cell? _ _ (hHeld.2.2.2.2.2.1))).trans (hHeld.2.2.2.2.2.1)
        have HS6_ := (hb.cell (World.block_lt_of_cell? _ _ (hHeld.2.2.2.2.2.2.1))).trans (hHeld.2.2.2.2.2.2.1)
        have HS7_ := (hb.cell (World.block_lt_of_cell? _ _ (hHeld.2.2.2.2.2.2.2))).trans (hHeld.2.2.2.2.2.2.2)
        refine ⟨_, rfl, ?_⟩
        replace HO_5 := Aside0.mk (Kd.R_below (kr_ HO_5) hb)
        replace HO610 := Aside0.mk (Kd.R_below (kr_ HO610) hb)
        replace HO614 := Aside0.mk (Kd.R_below (kr_ HO614) hb)
        replace BK580 := Aside0.mk (blk_below (bk_ BK580) hb)
        replace HB := Aside0.mk (below_step (bw1_ HB GE580) hb)
        (try clear hb)
        (try clear hb2)
        (try clear hk)
        (try clear hi)
        refine hK.out _ _ ⟨(blk_cell BK580.out 0).trans rfl, (blk_cell BK580.out 1).trans rfl, (blk_cell BK580.out 2).trans rfl, (blk_cell BK580.out 3).trans rfl, HS4_, HS5_, HS6_, HS7_⟩ (fun hHeld => ?_)
        clear hK K
        refine nS_ 125 ?_
        refine pS_ 2 ?_
        refine pS_ 3 ?_
        refine pS_ 4 ?_
        refine pS_ 5 ?_
        refine pS_ 6 ?_
        refine pS_ 7 ?_
        refine pS_ 8 ?_
        refine pS_ 9 ?_
        refine pS_ 10 ?_
        refine t8_ 11 hHeld ?_
        refine t8_ 12 hHeld ?_
        refine pS_ 13 ?_
        refine pS_ 14 ?_
        refine pS_ 15 ?_
        refine pS_ 16 ?_
        refine pS_ 17 ?_
        refine pS_ 18 ?_
        refine pU_ 19 ?_
        refine pU_ 20 ?_
        refine pU_ 21 ?_
        refine pU_ 22 ?_
        refine pU_ 23 ?_
        refine pU_ 24 ?_
        refine pS_ 25 ?_
        refine pS_ 26 ?_
        refine done_ (done_of HT_.out (by kernel_rfl)) ?_
        try go_wp2
        go_meet
        case rel => exact ⟨_, (false), (by first | rfl | (simp; done) | (simp [*]; done)), H', ⟨by have := HJ5.out; have := HJ20.out; have := HJ48.out; first | omega | exact Nat.le_refl _⟩, ⟨by (with_reducible repeat (first | apply Kd.R_alloc | apply Kd.R_drewN | apply Kd.R_drew)); exact Kd.R_mono HO_5.out (fun _ hk => ⟨hk.1.2, hk.1.1⟩)⟩, ⟨by (with_reducible repeat (first | apply Kd.R_alloc | apply Kd.R_drewN | apply Kd.R_drew)); exact Kd.R_mono HO610.out (fun _ hk => ⟨hk.1.1.2, hk.1.2⟩)⟩, ⟨bk_ BK580⟩, ⟨bw1_ HB GE580⟩⟩}}}
        {
        rw [if_neg c92] at H
        exact absurd H (by simp)}}
        {
        rw [if_neg c91] at H
        exact absurd H (by simp)}}}
        {
        replace c87 := Bool.eq_false_iff.mpr c87
        subst c87
        rw [if_neg (show ¬ (false = true) by decide)] at H
        have H' := Aside0.mk H
        clear H
        try go_wp2
        replace HO_5 := Aside0.mk (Kd.R_drew HO_5.out)
        replace HO610 := Aside0.mk (Kd.R_drew HO610.out)
        replace HO614 := Aside0.mk (Kd.R_drew HO614.out)
        replace BK580 := Aside0.mk (blk_drew BK580.out)
        replace HB := Aside0.mk (below_drew1 HB.out)
        refine start_ (n := 27) (S := fun w' => True) (ds := []) (bs_ 27 0) (by kernel_rfl) rfl (by kernel_rfl) trivial (fun hHeld => ?_); refine with_tabW laws_FnTreeBack.tab28 laws_FnTreeBack.bits28 (fun HT_ HW_ => ?_)
        generalize w85.drew = w101 at HO_5 HO610 HO614 BK580 HB hHeld ⊢
        refine pS_ 0 ?_
        refine oS_ 1 (fun K hK => ?_)
        refine gS_ Tryd.func8 #[.slice Ao84 t608.length co84] ?_
        with_reducible refine (spec_TreeOk.calls kj48 _ _ t608 false _ ?side1 ?side2 A86.out).mono ?_
        (case side1 => exact cR_ HO610)
        (case side2 => exact (Kd.R_reads' HO610.out).2.1)
        rintro e w102 ⟨rfl, hb⟩
        refine ⟨_, rfl, ?_⟩
        replace HO_5 := Aside0.mk (Kd.R_below (kr_ HO_5) hb)
        replace HO610 := Aside0.mk (Kd.R_below (kr_ HO610) hb)
        replace HO614 := Aside0.mk (Kd.R_below (kr_ HO614) hb)
        replace BK580 := Aside0.mk (blk_below (bk_ BK580) hb)
        replace HB := Aside0.mk (below_step (bw1_ HB GE580) hb)
        (try clear hb)
        (try clear hb2)
        (try clear hk)
        (try clear hi)
        refine hK.out _ _ trivial (fun hHeld => ?_)
        clear hK K
        refine nS_ 125 ?_
        refine pS_ 2 ?_
        refine pS_ 3 ?_
        refine pU_ 4 ?_
        refine pU_ 5 ?_
        refine pS_ 6 ?_
        refine pS_ 7 ?_
        refine pU_ 8 ?_
        refine pU_ 9 ?_
        refine pU_ 10 ?_
        refine pU_ 11 ?_
        refine pU_ 12 ?_
        refine pU_ 13 ?_
        refine pS_ 14 ?_
        refine pS_ 15 ?_
        refine pU_ 16 ?_
        refine pU_ 17 ?_
        refine pU_ 18 ?_
        refine pU_ 19 ?_
        refine pU_ 20 ?_
        refine pU_ 21 ?_
        refine pU_ 22 ?_
        refine pU_ 23 ?_
        refine pU_ 24 ?_
        refine pU_ 25 ?_
        refine pS_ 26 ?_
        refine done_ (done_of HT_.out (by kernel_rfl)) ?_
        try go_wp2
        go_meet
        case rel => exact ⟨_, (true), (by first | rfl | (simp; done) | (simp [*]; done)), H', ⟨by have := HJ5.out; have := HJ20.out; have := HJ48.out; first | omega | exact Nat.le_refl _⟩, ⟨by (with_reducible repeat (first | apply Kd.R_alloc | apply Kd.R_drewN | apply Kd.R_drew)); exact Kd.R_mono HO_5.out (fun _ hk => ⟨hk.1.2, hk.1.1⟩)⟩, ⟨by (with_reducible repeat (first | apply Kd.R_alloc | apply Kd.R_drewN | apply Kd.R_drew)); exact Kd.R_mono HO610.out (fun _ hk => ⟨hk.1.1.2, hk.1.2⟩)⟩, ⟨bk_ BK580⟩, ⟨bw1_ HB GE580⟩⟩}
       case rest =>
        clear HC76
        try clear p2
        try clear p6
        try clear q6
        try clear hx6
        try clear c8
        try clear c9
        try clear p61
        try clear q61
        try clear hx61
        try clear p64
        try clear c87
        try clear c91
        try clear c92
        try clear c96
        try clear c96b0
        try clear hx619_0
        try clear hx619_1
        try clear hx619_2
        try clear hx619_3
        try clear p619
        try clear q619
        obtain ⟨kq, x150_75, rfl, HA, HJ75, HO_5, HO_16, BK580, HB⟩ := hcut
        cases kq with
        | zero => exact absurd HA.out (by simp [laws_FnTreeBack.j3])
        | succ kj75 =>
         have H := HA.out
         clear HA
         simp only [laws_FnTreeBack.j3] at H
         by_cases c103 : x150_75 = true
         {
         subst c103
         rw [if_pos rfl] at H
         obtain rfl := Option.some.inj H
         go_wp2
         go_ret
         exact ⟨eR_, bw1_ HB GE580⟩}
         {
         replace c103 := Bool.eq_false_iff.mpr c103
         subst c103
         rw [if_neg (show ¬ (false = true) by decide)] at H
         replace H := Option.bind_eq_some_iff.mp H
         obtain ⟨⟨t620, t621⟩, A1040, H⟩ := H
         have A104 := Aside0.mk A1040
         clear A1040
         by_cases c105 : t621 = true
         {
         subst c105
         rw [if_pos rfl] at H
         by_cases c106 : t607 ≥ 0
         {
         rw [if_pos c106] at H
         have c106b0 : decide (0 ≤ t607) = true := decide_eq_true c106
         clear c106
         replace H := Option.bind_eq_some_iff.mp H
         obtain ⟨t624, A1070, H⟩ := H
         have A107 := Aside0.mk A1070
         clear A1070
         obtain rfl := Option.some.inj H
         obtain ⟨hcz108_0, hcz108_1, hcz108_2, hcz108_3, hfz108_0, hfz108_1, hfz108_2, hfz108_3⟩ := zc4_ BK580
         go_wp2_with (first | ((with_reducible refine gate_callee (f := 18) rfl ?_); refine gL_ (some 155) Tryd.func18 #[.slice Ao84 t608.length co84, .string t576] ?_; (with_reducible refine (impl_CutEntry.calls kj75 _ _ t608 t576 t620 true _ ?side1 ?side2 ?side3 A104.out).mono ?_); (case side1 => refine EnvW.below HE.out ?_; exact bw1_ HB GE580); (case side2 => exact cR_ HO_16); (case side3 => exact (Kd.R_reads' HO_16.out).2.1); rintro e w109 ⟨v622, rfl, ho0, hb⟩; refine ⟨_, rfl, ?_⟩; have HO623 := Aside0.mk (Kd.R_lower (Kd.R_newB (Kd.R_new' (Kd.R_new' ho0 (Kd.R_lt (kr_ HO_5))) (Kd.R_lt (kr_ HO_16))) (g := gb580) (o := .cells #[.string t576, .int .i64 t577, .string t578, .bool t579] 29 (0, 0)) (bk_ BK580)) (below_size (bw1_ HB GE580))); replace HO_5 := Aside0.mk (Kd.R_elder' (kr_ HO_5) (Kd.R_base ho0) hb); replace HO_16 := Aside0.mk (Kd.R_elder' (kr_ HO_16) (Kd.R_base ho0) hb); replace BK580 := Aside0.mk (blk_below (bk_ BK580) hb); replace HB := Aside0.mk (below_step (bw1_ HB GE580) hb); clear hb; (try clear ho0); obtain ⟨hcz110_0, hcz110_1, hcz110_2, hcz110_3, hfz110_0, hfz110_1, hfz110_2, hfz110_3⟩ := zc4_ BK580; obtain ⟨Ao111, co111, eo111⟩ := Kd.R_slice HO623.out; subst eo111) | (go_at_call 15; (with_reducible refine (impl_FindEntry.calls kj75 _ _ t620 t576 t624 _ ?side1 ?side2 ?side3 A107.out).mono ?_); (case side1 => refine EnvW.below HE.out ?_; exact bw1_ HB GE580); (case side2 => exact cR_ HO623); (case side3 => exact (Kd.R_reads' HO623.out).2.1); rintro e w112 ⟨rfl, hb⟩; replace HO_5 := Aside0.mk (Kd.R_below (kr_ HO_5) hb); replace HO_16 := Aside0.mk (Kd.R_below (kr_ HO_16) hb); replace HO623 := Aside0.mk (Kd.R_below (kr_ HO623) hb); replace BK580 := Aside0.mk (blk_below (bk_ BK580) hb); replace HB := Aside0.mk (below_step (bw1_ HB GE580) hb); clear hb))
         go_ret
         exact ⟨eR_, bw1_ HB GE580⟩}
         {
         rw [if_neg c106] at H
         have c106b0 : decide (0 ≤ t607) = false := decide_eq_false c106
         clear c106
         replace H := Option.bind_eq_some_iff.mp H
         obtain ⟨t625, A1130, H⟩ := H
         have A113 := Aside0.mk A1130
         clear A1130
         by_cases c114 : t625 = true
         {
         subst c114
         rw [if_pos rfl] at H
         replace H := Option.bind_eq_some_iff.mp H
         obtain ⟨t626, A1150, H⟩ := H
         have A115 := Aside0.mk A1150
         clear A1150
         obtain rfl := Option.some.inj H
         obtain ⟨hcz116_0, hcz116_1, hcz116_2, hcz116_3, hfz116_0, hfz116_1, hfz116_2, hfz116_3⟩ := zc4_ BK580
         go_wp2_with (first | ((with_reducible refine gate_callee (f := 18) rfl ?_); refine gL_ (some 155) Tryd.func18 #[.slice Ao84 t608.length co84, .string t576] ?_; (with_reducible refine (impl_CutEntry.calls kj75 _ _ t608 t576 t620 true _ ?side1 ?side2 ?side3 A104.out).mono ?_); (case side1 => refine EnvW.below HE.out ?_; exact bw1_ HB GE580); (case side2 => exact cR_ HO_16); (case side3 => exact (Kd.R_reads' HO_16.out).2.1); rintro e w117 ⟨v622, rfl, ho0, hb⟩; refine ⟨_, rfl, ?_⟩; have HO623 := Aside0.mk (Kd.R_lower (Kd.R_newB (Kd.R_new' (Kd.R_new' ho0 (Kd.R_lt (kr_ HO_5))) (Kd.R_lt (kr_ HO_16))) (g := gb580) (o := .cells #[.string t576, .int .i64 t577, .string t578, .bool t579] 29 (0, 0)) (bk_ BK580)) (below_size (bw1_ HB GE580))); replace HO_5 := Aside0.mk (Kd.R_elder' (kr_ HO_5) (Kd.R_base ho0) hb); replace HO_16 := Aside0.mk (Kd.R_elder' (kr_ HO_16) (Kd.R_base ho0) hb); replace BK580 := Aside0.mk (blk_below (bk_ BK580) hb); replace HB := Aside0.mk (below_step (bw1_ HB GE580) hb); clear hb; (try clear ho0); obtain ⟨Ao118, co118, eo118⟩ := Kd.R_slice HO623.out; subst eo118) | (go_at_call 9; (with_reducible refine (laws_sameTree.calls kj75 _ _ t620 _ _ t573 true _ ?side1 ?side2 ?side3 ?side4 A113.out).mono ?_); (case side1 => exact cR_ HO623); (case side2 => exact (Kd.R_reads' HO623.out).2.1); (case side3 => exact cR_ HO_5); (case side4 => exact (Kd.R_reads' HO_5.out).2.1); rintro e w' ⟨rfl, ⟨nd, rfl⟩⟩; obtain ⟨hcz119_0, hcz119_1, hcz119_2, hcz119_3, hfz119_0, hfz119_1, hfz119_2, hfz119_3⟩ := zc4_ BK580) | (go_at_call 15; (with_reducible refine (impl_FindEntry.calls kj75 _ _ t620 t576 t626 _ ?side1 ?side2 ?side3 A115.out).mono ?_); (case side1 => refine EnvW.below HE.out ?_; exact bw1_ HB GE580); (case side2 => exact cR_ HO623); (case side3 => exact (Kd.R_reads' HO623.out).2.1); rintro e w120 ⟨rfl, hb⟩; replace HO_5 := Aside0.mk (Kd.R_below (kr_ HO_5) hb); replace HO_16 := Aside0.mk (Kd.R_below (kr_ HO_16) hb); replace HO623 := Aside0.mk (Kd.R_below (kr_ HO623) hb); replace BK580 := Aside0.mk (blk_below (bk_ BK580) hb); replace HB := Aside0.mk (below_step (bw1_ HB GE580) hb); clear hb))
         go_ret
         exact ⟨eR_, bw1_ HB GE580⟩}
         {
         replace c114 := Bool.eq_false_iff.mpr c114
         subst c114
         rw [if_neg (show ¬ (false = true) by decide)] at H
         obtain rfl := Option.some.inj H
         obtain ⟨hcz121_0, hcz121_1, hcz121_2, hcz121_3, hfz121_0, hfz121_1, hfz121_2, hfz121_3⟩ := zc4_ BK580
         go_wp2_with (first | ((with_reducible refine gate_callee (f := 18) rfl ?_); refine gL_ (some 155) Tryd.func18 #[.slice Ao84 t608.length co84, .string t576] ?_; (with_reducible refine (impl_CutEntry.calls kj75 _ _ t608 t576 t620 true _ ?side1 ?side2 ?side3 A104.out).mono ?_); (case side1 => refine EnvW.below HE.out ?_; exact bw1_ HB GE580); (case side2 => exact cR_ HO_16); (case side3 => exact (Kd.R_reads' HO_16.out).2.1); rintro e w122 ⟨v622, rfl, ho0, hb⟩; refine ⟨_, rfl, ?_⟩; have HO623 := Aside0.mk (Kd.R_lower (Kd.R_newB (Kd.R_new' (Kd.R_new' ho0 (Kd.R_lt (kr_ HO_5))) (Kd.R_lt (kr_ HO_16))) (g := gb580) (o := .cells #[.string t576, .int .i64 t577, .string t578, .bool t579] 29 (0, 0)) (bk_ BK580)) (below_size (bw1_ HB GE580))); replace HO_5 := Aside0.mk (Kd.R_elder' (kr_ HO_5) (Kd.R_base ho0) hb); replace HO_16 := Aside0.mk (Kd.R_elder' (kr_ HO_16) (Kd.R_base ho0) hb); replace BK580 := Aside0.mk (blk_below (bk_ BK580) hb); replace HB := Aside0.mk (below_step (bw1_ HB GE580) hb); clear hb; (try clear ho0); obtain ⟨Ao123, co123, eo123⟩ := Kd.R_slice HO623.out; subst eo123) | (go_at_call 9; (with_reducible refine (laws_sameTree.calls kj75 _ _ t620 _ _ t573 false _ ?side1 ?side2 ?side3 ?side4 A113.out).mono ?_); (case side1 => exact cR_ HO623); (case side2 => exact (Kd.R_reads' HO623.out).2.1); (case side3 => exact cR_ HO_5); (case side4 => exact (Kd.R_reads' HO_5.out).2.1); rintro e w' ⟨rfl, ⟨nd, rfl⟩⟩))
         go_ret
         exact ⟨eR_, bw1_ HB GE580⟩}}}
         {
         replace c105 := Bool.eq_false_iff.mpr c105
         subst c105
         rw [if_neg (show ¬ (false = true) by decide)] at H
         obtain rfl := Option.some.inj H
         obtain ⟨hcz124_0, hcz124_1, hcz124_2, hcz124_3, hfz124_0, hfz124_1, hfz124_2, hfz124_3⟩ := zc4_ BK580
         go_wp2_with (first | ((with_reducible refine gate_callee (f := 18) rfl ?_); refine gL_ (some 155) Tryd.func18 #[.slice Ao84 t608.length co84, .string t576] ?_; (with_reducible refine (impl_CutEntry.calls kj75 _ _ t608 t576 t620 false _ ?side1 ?side2 ?side3 A104.out).mono ?_); (case side1 => refine EnvW.below HE.out ?_; exact bw1_ HB GE580); (case side2 => exact cR_ HO_16); (case side3 => exact (Kd.R_reads' HO_16.out).2.1); rintro e w125 ⟨v622, rfl, ho0, hb⟩; refine ⟨_, rfl, ?_⟩; have HO623 := Aside0.mk (Kd.R_lower (Kd.R_newB (Kd.R_new' (Kd.R_new' ho0 (Kd.R_lt (kr_ HO_5))) (Kd.R_lt (kr_ HO_16))) (g := gb580) (o := .cells #[.string t576, .int .i64 t577, .string t578, .bool t579] 29 (0, 0)) (bk_ BK580)) (below_size (bw1_ HB GE580))); replace HO_5 := Aside0.mk (Kd.R_elder' (kr_ HO_5) (Kd.R_base ho0) hb); replace HO_16 := Aside0.mk (Kd.R_elder' (kr_ HO_16) (Kd.R_base ho0) hb); replace BK580 := Aside0.mk (blk_below (bk_ BK580) hb); replace HB := Aside0.mk (below_step (bw1_ HB GE580) hb); clear hb; (try clear ho0)))
         go_ret
         exact ⟨eR_, bw1_ HB GE580⟩}}}
       {
       replace c74 := Bool.eq_false_iff.mpr c74
       subst c74
       rw [if_neg (show ¬ (false = true) by decide)] at H
       replace H := Option.bind_eq_some_iff.mp H
       obtain ⟨t616, A1260, H⟩ := H
       have A126 := Aside0.mk A1260
       clear A1260
       obtain rfl := Option.some.inj H
       obtain ⟨hcz127_0, hcz127_1, hcz127_2, hcz127_3, hfz127_0, hfz127_1, hfz127_2, hfz127_3⟩ := zc4_ BK580
       go_wp2_with (first | ((with_reducible refine gate_callee (f := 15) rfl ?_); refine gL_ (some 99) Tryd.func15 #[.slice Ao25 t573.length co25, .string t576] ?_; (with_reducible refine (impl_FindEntry.calls kj48 _ _ t573 t576 t607 _ ?side1 ?side2 ?side3 A64.out).mono ?_); (case side1 => refine EnvW.below HE.out ?_; exact bw1_ HB GE580); (case side2 => exact cR_ HO_5); (case side3 => exact (Kd.R_reads' HO_5.out).2.1); rintro e w128 ⟨rfl, hb⟩; refine ⟨_, rfl, ?_⟩; replace HO_5 := Aside0.mk (Kd.R_below (kr_ HO_5) hb); replace BK580 := Aside0.mk (blk_below (bk_ BK580) hb); replace HB := Aside0.mk (below_step (bw1_ HB GE580) hb); clear hb; obtain ⟨hcz129_0, hcz129_1, hcz129_2, hcz129_3, hfz129_0, hfz129_1, hfz129_2, hfz129_3⟩ := zc4_ BK580) | ((with_reducible refine gate_callee (f := 16) rfl ?_); refine gL_ (some 103) Tryd.func16 #[.slice Ao25 t573.length co25, .agg #[.string t576, .int .i64 t577, .string t578, .bool t579]] ?_; (with_reducible refine (impl_PutEntry.calls kj48 _ _ t573 t576 t577 t578 t579 t608 false _ ?side1 ?side2 ?side3 A65.out).mono ?_); (case side1 => refine EnvW.below HE.out ?_; exact bw1_ HB GE580); (case side2 => exact cR_ HO_5); (case side3 => exact (Kd.R_reads' HO_5.out).2.1); rintro e w130 ⟨v609, rfl, ho0, hb⟩; refine ⟨_, rfl, ?_⟩; have HO610 := Aside0.mk (Kd.R_lower (Kd.R_newB (Kd.R_new' ho0 (Kd.R_lt (kr_ HO_5))) (g := gb580) (o := .cells #[.string t576, .int .i64 t577, .string t578, .bool t579] 29 (0, 0)) (bk_ BK580)) (below_size (bw1_ HB GE580))); replace HO_5 := Aside0.mk (Kd.R_elder' (kr_ HO_5) (Kd.R_base ho0) hb); replace BK580 := Aside0.mk (blk_below (bk_ BK580) hb); replace HB := Aside0.mk (below_step (bw1_ HB GE580) hb); clear hb; (try clear ho0); obtain ⟨hcz131_0, hcz131_1, hcz131_2, hcz131_3, hfz131_0, hfz131_1, hfz131_2, hfz131_3⟩ := zc4_ BK580) | ((with_reducible refine gate_callee (f := 17) rfl ?_); refine gL_ (some 109) Tryd.func17 #[.slice Ao25 t573.length co25, .agg #[.string t576, .int .i64 t577, .string t578, .bool t579]] ?_; (with_reducible refine (spec_PutEntry.calls kj48 _ _ t573 t576 t577 t578 t579 t612 t615 _ ?side1 ?side2 A66.out).mono ?_); (case side1 => exact cR_ HO_5); (case side2 => exact (Kd.R_reads' HO_5.out).2.1); rintro e w132 ⟨v613, rfl, ho0, hb⟩; refine ⟨_, rfl, ?_⟩; have HO614 := Aside0.mk (Kd.R_lower (Kd.R_newB (Kd.R_new' (Kd.R_new' ho0 (Kd.R_lt (kr_ HO_5))) (Kd.R_lt (kr_ HO610))) (g := gb580) (o := .cells #[.string t576, .int .i64 t577, .string t578, .bool t579] 29 (0, 0)) (bk_ BK580)) (below_size (bw1_ HB GE580))); replace HO_5 := Aside0.mk (Kd.R_elder' (kr_ HO_5) (Kd.R_base ho0) hb); replace HO610 := Aside0.mk (Kd.R_elder' (kr_ HO610) (Kd.R_base ho0) hb); replace BK580 := Aside0.mk (blk_below (bk_ BK580) hb); replace HB := Aside0.mk (below_step (bw1_ HB GE580) hb); clear hb; (try clear ho0); obtain ⟨Ao133, co133, eo133⟩ := Kd.R_slice HO610.out; subst eo133) | ((with_reducible refine gate_callee (f := 9) rfl ?_); refine gL_ (some 119) Tryd.func9 #[.slice Ao133 t608.length co133, .slice Ao25 t573.length co25] ?_; (with_reducible refine (laws_sameTree.calls kj48 _ _ t608 _ _ t573 t616 _ ?side1 ?side2 ?side3 ?side4 A126.out).mono ?_); (case side1 => exact cR_ HO610); (case side2 => exact (Kd.R_reads' HO610.out).2.1); (case side3 => exact cR_ HO_5); (case side4 => exact (Kd.R_reads' HO_5.out).2.1); rintro e w' ⟨rfl, ⟨nd, rfl⟩⟩; refine ⟨_, rfl, ?_⟩))
       go_ret
       exact ⟨eR_, bw1_ HB GE580⟩}}}}}}
   {
   replace c19 := Bool.eq_false_iff.mpr c19
   subst c19
   rw [if_neg (show ¬ (false = true) by decide)] at H
   obtain rfl := Option.some.inj H
   go_wp2_with (first | ((with_reducible refine gate_callee (f := 7) rfl ?_); refine gL_ (some 40) Tryd.func7 #[.slice A0 l0.length c0] ?_; (with_reducible refine (spec_DrawPutEntry.calls kj5 _ _ l0 t573 t576 t577 t578 t579 _ ?side1 ?side2 A16.out).mono ?_); (case side1 => exact cS_ HR0 HB); (case side2 => exact HC0.out); rintro e w134 ⟨v574, rfl, ho0, hb⟩; refine ⟨_, rfl, ?_⟩; have HO575 := Aside0.mk (Kd.R_lower ho0 (below_size (bw_ HB))); replace HB := Aside0.mk (below_step (bw_ HB) hb); clear hb; (try clear ho0)) | ((with_reducible refine gate_dst (N := 6) rfl ?_); (try (refine gate_guard (by rfl) ?_; dsimp only)); refine bE_ 6 #[.string (⟨#[]⟩ : ByteArray), .int .i64 0, .string (⟨#[]⟩ : ByteArray), .bool false] 29 ?_; intro gb580 hg w135 hbox hb; replace HO575 := Aside0.mk (Kd.R_below (Kd.R_elderB (kr_ HO575) gb580 (Nat.le_of_eq hg.symm)) hb); have BK580 := Aside0.mk (hbox); have GW580 := Aside0.mk ((ge_ hg (bw_ HB))); have GE580 := Aside0.mk ((ge_ hg (bw_ HB))); replace HB := Aside0.mk (below_step (bw_ HB) hb); clear hb hbox hg; obtain ⟨hcz136_0, hcz136_1, hcz136_2, hcz136_3, hfz136_0, hfz136_1, hfz136_2, hfz136_3⟩ := zc4_ BK580; obtain ⟨Ao137, co137, eo137⟩ := Kd.R_slice HO575.out; subst eo137) | ((with_reducible refine gate_callee (f := 6) rfl ?_); refine gL_ (some 44) Tryd.func6 #[.slice Ao137 t573.length co137] ?_; (with_reducible refine (impl_PackTree.calls kj5 _ _ t573 t581 _ ?side1 ?side2 ?side3 A17.out).mono ?_); (case side1 => refine EnvW.below HE.out ?_; exact bw1_ HB GE580); (case side2 => refine (Kd.R_reads' (e := 29) (base := w.heap.size) (ok := fun k_ => (True ∧ k_ ≠ gb580)) (n := t573.length) (c := co137) ?_).2.2; exact (by (with_reducible repeat (first | apply Kd.R_alloc | apply Kd.R_drewN | apply Kd.R_drew)); exact (Kd.R_mono (Kd.R_far (p := ⟨gb580, 3, none⟩) (Kd.R_far (p := ⟨gb580, 2, none⟩) (Kd.R_far (p := ⟨gb580, 1, none⟩) (Kd.R_far (p := ⟨gb580, 0, none⟩) (Kd.R_mono HO575.out (fun k_ hk => (⟨hk, hk.2⟩ : _ ∧ k_ ≠ gb580))) (fun _ hk => hk.2) (.string t576)) (fun _ hk => hk.2) (.int .i64 t577)) (fun _ hk => hk.2) (.string t578)) (fun _ hk => hk.2) (.bool t579)) (fun _ h_ => h_.1)))); (case side3 => exact (Kd.R_reads' HO575.out).2.1); rintro e w138 ⟨v582, rfl, ho0, hb⟩; refine ⟨_, rfl, ?_⟩; replace HO575 := Aside0.mk (Kd.R_below (by (with_reducible repeat (first | apply Kd.R_alloc | apply Kd.R_drewN | apply Kd.R_drew)); exact (Kd.R_mono (Kd.R_far (p := ⟨gb580, 3, none⟩) (Kd.R_far (p := ⟨gb580, 2, none⟩) (Kd.R_far (p := ⟨gb580, 1, none⟩) (Kd.R_far (p := ⟨gb580, 0, none⟩) (Kd.R_mono HO575.out (fun k_ hk => (⟨hk, hk.2⟩ : _ ∧ k_ ≠ gb580))) (fun _ hk => hk.2) (.string t576)) (fun _ hk => hk.2) (.int .i64 t577)) (fun _ hk => hk.2) (.string t578)) (fun _ hk => hk.2) (.bool t579)) (fun _ h_ => h_.1))) hb); have HO583 := Aside0.mk (Kd.R_lower ho0 (below_size (bw1_ HB GE580))); replace BK580 := Aside0.mk (blk_below (g := gb580) (o := .cells #[.string t576, .int .i64 t577, .string t578, .bool t579] 29 (0, 0)) (by (with_reducible repeat (first | refine blk_drewN ?_ _ | refine blk_drew ?_ | refine blk_alloc ?_ _)); refine blk_put (cs := #[.string t576, .int .i64 t577, .string t578, .bool false]) ?_ 3 _ rfl; (with_reducible repeat (first | refine blk_drewN ?_ _ | refine blk_drew ?_ | refine blk_alloc ?_ _)); refine blk_put (cs := #[.string t576, .int .i64 t577, .string (⟨#[]⟩ : ByteArray), .bool false]) ?_ 2 _ rfl; (with_reducible repeat (first | refine blk_drewN ?_ _ | refine blk_drew ?_ | refine blk_alloc ?_ _)); refine blk_put (cs := #[.string t576, .int .i64 0, .string (⟨#[]⟩ : ByteArray), .bool false]) ?_ 1 _ rfl; (with_reducible repeat (first | refine blk_drewN ?_ _ | refine blk_drew ?_ | refine blk_alloc ?_ _)); refine blk_put (cs := #[.string (⟨#[]⟩ : ByteArray), .int .i64 0, .string (⟨#[]⟩ : ByteArray), .bool false]) ?_ 0 _ rfl; exact bk_ BK580) hb); replace HB := Aside0.mk (below_step (bw1_ HB GE580) hb); clear hb; (try clear ho0)) | ((with_reducible refine gate_callee (f := 8) rfl ?_); refine gL_ (some 46) Tryd.func8 #[.slice Ao137 t573.length co137] ?_; (with_reducible refine (spec_TreeOk.calls kj5 _ _ t573 false _ ?side1 ?side2 A18.out).mono ?_); (case side1 => exact cR_ HO575); (case side2 => exact (Kd.R_reads' HO575.out).2.1); rintro e w139 ⟨rfl, hb⟩; refine ⟨_, rfl, ?_⟩; replace HO575 := Aside0.mk (Kd.R_below (kr_ HO575) hb); replace HO583 := Aside0.mk (Kd.R_below (kr_ HO583) hb); replace BK580 := Aside0.mk (blk_below (bk_ BK580) hb); replace HB := Aside0.mk (below_step (bw1_ HB GE580) hb); clear hb; obtain ⟨Ao140, co140, eo140⟩ := Kd.R_slice HO583.out; subst eo140))
   go_ret
   exact ⟨eR_, bw1_ HB GE580⟩
}}}
end Go.Proofs.YtjnmcgeahomkeaaDoor.P
end
