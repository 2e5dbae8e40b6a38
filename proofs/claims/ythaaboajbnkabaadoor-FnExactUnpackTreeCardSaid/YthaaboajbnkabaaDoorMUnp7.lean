/- Texts of Unp, put together by program. -/
import Derived.Test.YthaaboajbnkabaaDoorMUnp3
import Derived.Test.YthaaboajbnkabaaDoorMUnp5
import Derived.Test.YthaaboajbnkabaaDoorMUnp6

section
namespace Go.Proofs.YthaaboajbnkabaaDoor.P
open Go.RowKit Go.Proofs.YthaaboajbnkabaaDoorW.PrintWords Go.Proofs.YthaaboajbnkabaaDoorW.PrintLast Go.Proofs.YthaaboajbnkabaaDoorW.PrintMore Go.Proofs.YthaaboajbnkabaaDoorM
attribute [local go_sem] max2_int min2_int max_two min_two max_three min_three max_four min_four   -- for this text's walks alone
set_option linter.unusedVariables false
set_option linter.unusedSimpArgs false
def spec_UnpackTree.I (A0 : Option Addr) (c0 : Nat) (w0 W : World) (g : Nat) (f0 : List Int) (f1 : Int) (f2 : Bool) : Prop := ∃ A1 c1, W.heap[g]? = some (.cells #[.slice A1 f0.length c1, .int .i64 f1, .bool f2] 47 (0, 0)) ∧ (w0.heap.size ≤ g ∧ A1 = A0 ∧ c1 = c0) ∧ Kd.C (Kd.int .u8) w0 A1 f0.length f0
theorem spec_UnpackTree.I.grown {A0 : Option Addr} {c0 : Nat} {w0 W : World} {g : Nat} {f0 : List Int} {f1 : Int} {f2 : Bool} {W1 : World} {row : Option Nat} (h : spec_UnpackTree.I A0 c0 w0 W g f0 f1 f2) (hw : W.grownBy W1 row) (hne : some g ≠ row) : spec_UnpackTree.I A0 c0 w0 W1 g f0 f1 f2 := by
  obtain ⟨A1, c1, hb, hg, hr⟩ := h
  exact ⟨A1, c1, blk_grown hb hw hne, hg, hr⟩
theorem spec_UnpackTree.I.below {A0 : Option Addr} {c0 : Nat} {w0 W : World} {g : Nat} {f0 : List Int} {f1 : Int} {f2 : Bool} {W1 : World} (h : spec_UnpackTree.I A0 c0 w0 W g f0 f1 f2) (hw : Below W.heap.size W W1) : spec_UnpackTree.I A0 c0 w0 W1 g f0 f1 f2 := h.grown (grown_of_below hw none) (by simp)
theorem spec_UnpackTree.I.alloc {A0 : Option Addr} {c0 : Nat} {w0 W : World} {g : Nat} {f0 : List Int} {f1 : Int} {f2 : Bool} (h : spec_UnpackTree.I A0 c0 w0 W g f0 f1 f2) (o : Obj) : spec_UnpackTree.I A0 c0 w0 (W.alloc o) g f0 f1 f2 := h.below (below_alloc (Below.refl _ _) o)
theorem spec_UnpackTree.I.drewN {A0 : Option Addr} {c0 : Nat} {w0 W : World} {g : Nat} {f0 : List Int} {f1 : Int} {f2 : Bool} (h : spec_UnpackTree.I A0 c0 w0 W g f0 f1 f2) (m : Nat) : spec_UnpackTree.I A0 c0 w0 (W.drewN m) g f0 f1 f2 := h
theorem spec_UnpackTree.I.drew {A0 : Option Addr} {c0 : Nat} {w0 W : World} {g : Nat} {f0 : List Int} {f1 : Int} {f2 : Bool} (h : spec_UnpackTree.I A0 c0 w0 W g f0 f1 f2) : spec_UnpackTree.I A0 c0 w0 W.drew g f0 f1 f2 := h
theorem spec_UnpackTree.I.ge {A0 : Option Addr} {c0 : Nat} {w0 W : World} {g : Nat} {f0 : List Int} {f1 : Int} {f2 : Bool} (h : spec_UnpackTree.I A0 c0 w0 W g f0 f1 f2) : w0.heap.size ≤ g := by
  obtain ⟨A1, c1, hb, hg, hr⟩ := h
  exact hg.1
theorem spec_UnpackTree.I.lt {A0 : Option Addr} {c0 : Nat} {w0 W : World} {g : Nat} {f0 : List Int} {f1 : Int} {f2 : Bool} (h : spec_UnpackTree.I A0 c0 w0 W g f0 f1 f2) : g < W.heap.size := by
  obtain ⟨A1, c1, hb, hg, hr⟩ := h
  exact blk_lt hb
theorem spec_UnpackTree.I.blk {A0 : Option Addr} {c0 : Nat} {w0 W : World} {g : Nat} {f0 : List Int} {f1 : Int} {f2 : Bool} (h : spec_UnpackTree.I A0 c0 w0 W g f0 f1 f2) : W.heap[g]? = some (.cells #[.slice A0 f0.length c0, .int .i64 f1, .bool f2] 47 (0, 0)) ∧ Kd.C (Kd.int .u8) w0 A0 f0.length f0 := by
  obtain ⟨A1, c1, hb, ⟨hg, rfl, rfl⟩, hr⟩ := h
  exact ⟨hb, hr⟩
theorem spec_UnpackTree.I.far {A0 : Option Addr} {c0 : Nat} {w0 W : World} {g : Nat} {f0 : List Int} {f1 : Int} {f2 : Bool} {p : Addr} (h : spec_UnpackTree.I A0 c0 w0 W g f0 f1 f2) (hne : g ≠ p.block) (u : Value) : spec_UnpackTree.I A0 c0 w0 (W.setCell p u) g f0 f1 f2 := by
  obtain ⟨A1, c1, hb, hg, hr⟩ := h
  exact ⟨A1, c1, blk_far hb hne u, hg, hr⟩
theorem spec_UnpackTree.I.set_1 {A0 : Option Addr} {c0 : Nat} {w0 W : World} {g : Nat} {f0 : List Int} {f1 : Int} {f2 : Bool} (h : spec_UnpackTree.I A0 c0 w0 W g f0 f1 f2) (x : Int) : spec_UnpackTree.I A0 c0 w0 (W.setCell ⟨g, 1, none⟩ (.int .i64 x)) g f0 x f2 := by
  obtain ⟨A1, c1, hb, hg, hr⟩ := h
  exact ⟨A1, c1, by simpa using blk_set hb 1 (.int .i64 x), hg, hr⟩
theorem spec_UnpackTree.I.set_2 {A0 : Option Addr} {c0 : Nat} {w0 W : World} {g : Nat} {f0 : List Int} {f1 : Int} {f2 : Bool} (h : spec_UnpackTree.I A0 c0 w0 W g f0 f1 f2) (x : Bool) : spec_UnpackTree.I A0 c0 w0 (W.setCell ⟨g, 2, none⟩ (.bool x)) g f0 f1 x := by
  obtain ⟨A1, c1, hb, hg, hr⟩ := h
  exact ⟨A1, c1, by simpa using blk_set hb 2 (.bool x), hg, hr⟩
set_option maxHeartbeats 8000000 in
set_option maxRecDepth 100000 in
theorem spec_UnpackTree.read_ (A0 : Option Addr) (c0 : Nat) (k : Nat) (g : Nat) (s0_0 : List Int) (s0_1 : Int) (s0_2 : Bool) (r1 : Int) (r2 : Int) (r3 : Bool) (w0 w : World) (hI : spec_UnpackTree.I A0 c0 w0 w g s0_0 s0_1 s0_2) (hB : Below w0.heap.size w0 w) (h : spec_l10Read.f k s0_0 s0_1 s0_2 = some (r1, r2, r3)) :
    Calls Tryd.prog 26 #[.pointer (some ⟨g, 0, none⟩)] w fun e w' => e = .returned (.int .i64 r1) ∧ spec_UnpackTree.I A0 c0 w0 w' g s0_0 r2 r3 ∧ Below w0.heap.size w0 w' ∧ KeepBut w w' g none := by
  have HI0 := Aside0.mk hI
  have HK := Aside0.mk (KeepBut.refl w g none)
  have HL := Aside0.mk hB.size
  clear hI
  have HW0 := Aside0.mk hB.size
  have HB := Aside0.mk hB
  clear hB
  have H : (spec_l10Read.l0 k 0 0 s0_0 s0_1 s0_2) = some (r1, r2, r3) := h
  clear h
  have H' := Aside0.mk H
  clear H
  go_enter Tryd.func26, Tryd.ntmps26
  go_wp2
  repeat (go_quiet (fail); try go_wp2)
  go_loopg [3, 4] k (fun kq v3 v4 w' => ∃ (x3_1 : Int) (x4_1 : Int) (x1001_1 : Int) (x1002_1 : Bool), v3 = .int .i64 x3_1 ∧ v4 = .int .u64 x4_1 ∧ Aside0 (spec_l10Read.l0 kq x3_1 x4_1 s0_0 x1001_1 x1002_1 = some (r1, r2, r3)) ∧ Aside0 (kq ≤ k) ∧ Aside0 (spec_UnpackTree.I A0 c0 w0 w' g s0_0 x1001_1 x1002_1) ∧ Aside0 (KeepBut w w' g none) ∧ Aside0 (Below w0.heap.size w0 w'))
  case atStart => exact ⟨(0), (0), (s0_1), (s0_2), (by first | rfl | (simp; done) | (simp [*]; done)), (by first | rfl | (simp; done) | (simp [*]; done)), H', ⟨Nat.le_refl _⟩, ⟨by repeat (first | (with_reducible first | exact HI0.out | apply spec_UnpackTree.I.alloc | apply spec_UnpackTree.I.drewN | apply spec_UnpackTree.I.drew | apply spec_UnpackTree.I.set_1 | apply spec_UnpackTree.I.set_2) | exact HI0.out)⟩, ⟨by repeat (first | (with_reducible first | exact HK.out | apply KeepBut.set_ | apply keep_drewN | apply keep_drew | apply keep_alloc) | exact HK.out)⟩, ⟨by repeat (first | (with_reducible first | exact HB.out | apply below_alloc | apply pw_below_drewN | apply below_drew1 | refine below_set ?_ (spec_UnpackTree.I.ge HI0.out)) | exact HB.out)⟩⟩
  case round =>
    clear H'
    obtain ⟨x3_1, x4_1, x1001_1, x1002_1, rfl, rfl, HA, HK1, HI0, HK, HB⟩ := hrel
    cases gk with
    | zero => exact absurd HA.out (by simp [spec_l10Read.l0])
    | succ k1 =>
      have H := HA.out
      clear HA
      simp only [spec_l10Read.l0] at H
      by_cases c2 : x4_1 < 28
      · rw [if_pos c2] at H
        have c2b0 : decide (x4_1 < 28) = true := decide_eq_true c2
        clear c2
        by_cases c3 : x1001_1 ≥ (s0_0.length : Int)
        · rw [if_pos c3] at H
          have c3b0 : decide ((s0_0.length : Int) ≤ x1001_1) = true := decide_eq_true c3
          clear c3
          simp only [Option.some.injEq, Prod.mk.injEq] at H
          obtain ⟨rfl, rfl, rfl⟩ := H
          obtain ⟨ASz4_0, cSz4_0, HGz4, hgz4, HSz4_0⟩ := HI0.out
          have hcz4_0 := cellS47_0 HGz4
          have hcz4_1 := cellS47_1 HGz4
          have hcz4_2 := cellS47_2 HGz4
          have hfz4_1 := blk_frozen HGz4 1
          have hfz4_2 := blk_frozen HGz4 2
          clear HGz4 hgz4
          go_wp2
          repeat (go_quiet (fail); try go_wp2)
          go_ret
          exact ⟨by first | rfl | (simp [errW_none, errW_some] <;> rfl) | (simp [*, errW_none, errW_some] <;> rfl), by repeat (first | (with_reducible first | exact HI0.out | apply spec_UnpackTree.I.alloc | apply spec_UnpackTree.I.drewN | apply spec_UnpackTree.I.drew | apply spec_UnpackTree.I.set_1 | apply spec_UnpackTree.I.set_2) | exact HI0.out), by repeat (first | (with_reducible first | exact HB.out | apply below_alloc | apply pw_below_drewN | apply below_drew1 | refine below_set ?_ (spec_UnpackTree.I.ge HI0.out)) | exact HB.out), by repeat (first | (with_reducible first | exact HK.out | apply KeepBut.set_ | apply keep_drewN | apply keep_drew | apply keep_alloc) | exact HK.out)⟩
        · rw [if_neg c3] at H
          have c3b0 : decide ((s0_0.length : Int) ≤ x1001_1) = false := decide_eq_false c3
          clear c3
          by_cases c5 : 0 ≤ x1001_1
          · rw [if_pos c5] at H
            have c5b0 : decide (0 ≤ x1001_1) = true := decide_eq_true c5
            clear c5
            by_cases c6 : x1001_1 < (s0_0.length : Int)
            · rw [if_pos c6] at H
              have c6b0 : decide (x1001_1 < (s0_0.length : Int)) = true := decide_eq_true c6
              clear c6
              by_cases c7 : 0 ≤ x4_1
              · rw [if_pos c7] at H
                have c7b0 := eq_true c7
                have c7b1 : decide (0 ≤ x4_1) = true := decide_eq_true c7
                clear c7
                obtain ⟨ji8, hji8⟩ : ∃ j_ : Int, (shl .i64 (wrap64 (Go.bits .and .u8 (rd s0_0 x1001_1) 127)) x4_1) = j_ := ⟨_, rfl⟩
                replace H : (if (rd s0_0 x1001_1) < 128 then (some (wrap64 (x3_1 + (ji8)), wrap64 (x1001_1 + 1), x1002_1)) else (spec_l10Read.l0 k1 (wrap64 (x3_1 + (ji8))) (IntKind.u64.wrap (x4_1 + 7)) s0_0 (wrap64 (x1001_1 + 1)) x1002_1)) = some (r1, r2, r3) := by first | (rw [hji8] at H; exact H) | (simp only [hji8] at H ⊢; exact H)
                have hji8_ : (IntKind.i64.wrap ((wrap64 (Go.bits .and .u8 (rd s0_0 x1001_1) 127)) * 2 ^ min x4_1.toNat 64)) = ji8 := hji8
                have hji8z : x4_1 ≤ 64 → (IntKind.i64.wrap ((wrap64 (Go.bits .and .u8 (rd s0_0 x1001_1) 127)) * 2 ^ x4_1.toNat)) = ji8 := shl_small hji8
                have hji8y : (wrap64 ((wrap64 (Go.bits .and .u8 (rd s0_0 x1001_1) 127)) * 2 ^ min x4_1.toNat 64)) = ji8 := (i64_w _).symm.trans hji8_
                have hji8x : x4_1 ≤ 64 → (wrap64 ((wrap64 (Go.bits .and .u8 (rd s0_0 x1001_1) 127)) * 2 ^ x4_1.toNat)) = ji8 := fun h_ => (i64_w _).symm.trans (hji8z h_)
                by_cases c9 : (rd s0_0 x1001_1) < 128
                · rw [if_pos c9] at H
                  have c9b0 : decide ((rd s0_0 x1001_1) < 128) = true := decide_eq_true c9
                  clear c9
                  simp only [Option.some.injEq, Prod.mk.injEq] at H
                  obtain ⟨rfl, rfl, rfl⟩ := H
                  obtain ⟨ASz10_0, cSz10_0, HGz10, hgz10, HSz10_0⟩ := HI0.out
                  have hcz10_0 := cellS47_0 HGz10
                  have hcz10_1 := cellS47_1 HGz10
                  have hcz10_2 := cellS47_2 HGz10
                  have hfz10_1 := blk_frozen HGz10 1
                  have hfz10_2 := blk_frozen HGz10 2
                  clear HGz10 hgz10
                  have p130 : 0 ≤ (x1001_1 : Int) := of_decide_eq_true (by first | (with_reducible assumption) | assumption)
                  have q130 : x1001_1 < (s0_0.length : Int) := of_decide_eq_true (by first | (with_reducible assumption) | assumption)
                  obtain ⟨ad130, e130, hx130_0⟩ := Kd.at_int HSz10_0 x1001_1 p130 q130
                  cases e130
                  replace hx130_0 := pw_cell_below HB.out hx130_0
                  replace p130 := eq_true p130
                  replace q130 := eq_true q130
                  go_wp2
                  repeat (go_quiet (fail); try go_wp2)
                  go_ret
                  exact ⟨by first | rfl | (simp [errW_none, errW_some] <;> rfl) | (simp only [← hji8]; first | rfl | (simp [errW_none, errW_some] <;> rfl)) | (simp [*, errW_none, errW_some] <;> rfl), by repeat (first | (with_reducible first | exact HI0.out | apply spec_UnpackTree.I.alloc | apply spec_UnpackTree.I.drewN | apply spec_UnpackTree.I.drew | apply spec_UnpackTree.I.set_1 | apply spec_UnpackTree.I.set_2) | exact HI0.out), by repeat (first | (with_reducible first | exact HB.out | apply below_alloc | apply pw_below_drewN | apply below_drew1 | refine below_set ?_ (spec_UnpackTree.I.ge HI0.out)) | exact HB.out), by repeat (first | (with_reducible first | exact HK.out | apply KeepBut.set_ | apply keep_drewN | apply keep_drew | apply keep_alloc) | exact HK.out)⟩
                · rw [if_neg c9] at H
                  have c9b0 : decide ((rd s0_0 x1001_1) < 128) = false := decide_eq_false c9
                  clear c9
                  have H' := Aside0.mk H
                  clear H
                  obtain ⟨ASz11_0, cSz11_0, HGz11, hgz11, HSz11_0⟩ := HI0.out
                  have hcz11_0 := cellS47_0 HGz11
                  have hcz11_1 := cellS47_1 HGz11
                  have hcz11_2 := cellS47_2 HGz11
                  have hfz11_1 := blk_frozen HGz11 1
                  have hfz11_2 := blk_frozen HGz11 2
                  clear HGz11 hgz11
                  have p130 : 0 ≤ (x1001_1 : Int) := of_decide_eq_true (by first | (with_reducible assumption) | assumption)
                  have q130 : x1001_1 < (s0_0.length : Int) := of_decide_eq_true (by first | (with_reducible assumption) | assumption)
                  obtain ⟨ad130, e130, hx130_0⟩ := Kd.at_int HSz11_0 x1001_1 p130 q130
                  cases e130
                  replace hx130_0 := pw_cell_below HB.out hx130_0
                  replace p130 := eq_true p130
                  replace q130 := eq_true q130
                  go_wp2
                  repeat (go_quiet (fail); try go_wp2)
                  go_roundg k1
                  case measure => have := HK1.out; omega
                  case rel => exact ⟨(wrap64 (x3_1 + (ji8))), (IntKind.u64.wrap (x4_1 + 7)), (wrap64 (x1001_1 + 1)), (x1002_1), (by first | rfl | (simp; done) | (simp only [← hji8] <;> (first | rfl | simp)) | (simp [*]; done)), (by first | rfl | (simp; done) | (simp [*]; done)), H', ⟨by have := HK1.out; omega⟩, ⟨by repeat (first | (with_reducible first | exact HI0.out | apply spec_UnpackTree.I.alloc | apply spec_UnpackTree.I.drewN | apply spec_UnpackTree.I.drew | apply spec_UnpackTree.I.set_1 | apply spec_UnpackTree.I.set_2) | exact HI0.out)⟩, ⟨by repeat (first | (with_reducible first | exact HK.out | apply KeepBut.set_ | apply keep_drewN | apply keep_drew | apply keep_alloc) | exact HK.out)⟩, ⟨by repeat (first | (with_reducible first | exact HB.out | apply below_alloc | apply pw_below_drewN | apply below_drew1 | refine below_set ?_ (spec_UnpackTree.I.ge HI0.out)) | exact HB.out)⟩⟩
              · rw [if_neg c7] at H
                exact absurd H (by simp)
            · rw [if_neg c6] at H
              exact absurd H (by simp)
          · rw [if_neg c5] at H
            exact absurd H (by simp)
      · rw [if_neg c2] at H
        have c2b0 : decide (x4_1 < 28) = false := decide_eq_false c2
        clear c2
        simp only [Option.some.injEq, Prod.mk.injEq] at H
        obtain ⟨rfl, rfl, rfl⟩ := H
        obtain ⟨ASz12_0, cSz12_0, HGz12, hgz12, HSz12_0⟩ := HI0.out
        have hcz12_0 := cellS47_0 HGz12
        have hcz12_1 := cellS47_1 HGz12
        have hcz12_2 := cellS47_2 HGz12
        have hfz12_1 := blk_frozen HGz12 1
        have hfz12_2 := blk_frozen HGz12 2
        clear HGz12 hgz12
        go_wp2
        repeat (go_quiet (fail); try go_wp2)
        go_ret
        exact ⟨by first | rfl | (simp [errW_none, errW_some] <;> rfl) | (simp [*, errW_none, errW_some] <;> rfl), by repeat (first | (with_reducible first | exact HI0.out | apply spec_UnpackTree.I.alloc | apply spec_UnpackTree.I.drewN | apply spec_UnpackTree.I.drew | apply spec_UnpackTree.I.set_1 | apply spec_UnpackTree.I.set_2) | exact HI0.out), by repeat (first | (with_reducible first | exact HB.out | apply below_alloc | apply pw_below_drewN | apply below_drew1 | refine below_set ?_ (spec_UnpackTree.I.ge HI0.out)) | exact HB.out), by repeat (first | (with_reducible first | exact HK.out | apply KeepBut.set_ | apply keep_drewN | apply keep_drew | apply keep_alloc) | exact HK.out)⟩
def spec_UnpackTree.txt (k : Nat) (s0_0 : List Int) (s0_1 : Int) (s0_2 : Bool) : Option (ByteArray × Int × Bool) :=
  (spec_l10Read.f k s0_0 s0_1 s0_2).bind fun r => if 0 ≤ r.1 ∧ r.1 ≤ 1099511627776 ∧ 0 ≤ r.2.1 ∧ r.2.1 ≤ (s0_0.length : Int) ∧ s0_0.length ≤ 1099511627776 then
    (if r.2.2 = true then some (⟨#[]⟩, r.2.1, true) else if (s0_0.length : Int) - r.2.1 < r.1 then some (⟨#[]⟩, r.2.1, true) else some (strOfNums ((s0_0.take (r.2.1 + r.1).toNat).drop r.2.1.toNat), r.2.1 + r.1, false)) else none
theorem spec_UnpackTree.sub (a b : Int) (h0 : 0 ≤ b) (h1 : b ≤ a) (h2 : a ≤ 1099511627776) : wrap64 (a - b) = a - b := by unfold wrap64; omega
theorem spec_UnpackTree.add (a b : Int) (h0 : 0 ≤ b) (h1 : 0 ≤ a) (h2 : a ≤ 1099511627776) (h3 : b ≤ 1099511627776) : wrap64 (a + b) = a + b := by unfold wrap64; omega
set_option maxRecDepth 100000 in
set_option maxHeartbeats 4000000 in
theorem spec_UnpackTree.text (A0 : Option Addr) (c0 : Nat) (k : Nat) (g : Nat) (s0_0 : List Int) (s0_1 : Int) (s0_2 : Bool) (r1 : ByteArray) (r2 : Int) (r3 : Bool) (w0 w : World) (hcap : s0_0.length ≤ c0) (hI : spec_UnpackTree.I A0 c0 w0 w g s0_0 s0_1 s0_2) (hB : Below w0.heap.size w0 w) (h : spec_UnpackTree.txt k s0_0 s0_1 s0_2 = some (r1, r2, r3)) :
    Calls Tryd.prog 27 #[.pointer (some ⟨g, 0, none⟩)] w fun e w' => e = .returned (.string r1) ∧ spec_UnpackTree.I A0 c0 w0 w' g s0_0 r2 r3 ∧ Below w0.heap.size w0 w' ∧ KeepBut w w' g none := by
  unfold spec_UnpackTree.txt at h
  obtain ⟨⟨n, i, bad⟩, hr, h⟩ := Option.bind_eq_some_iff.mp h
  simp only [] at h
  by_cases hc : 0 ≤ n ∧ n ≤ 1099511627776 ∧ 0 ≤ i ∧ i ≤ (s0_0.length : Int) ∧ s0_0.length ≤ 1099511627776
  case neg => rw [if_neg hc] at h; cases h
  rw [if_pos hc] at h
  obtain ⟨q1, q2, q3, q4, q5⟩ := hc
  have HI := Aside0.mk hI
  have HB := Aside0.mk hB
  have HR := Aside0.mk hr
  have hsub := spec_UnpackTree.sub (s0_0.length : Int) i q3 q4 (by omega)
  have hadd := spec_UnpackTree.add i n q1 q3 (by omega) q2
  clear hI hB hr
  cases bad with
  | true =>
    rw [if_pos rfl] at h
    obtain ⟨rfl, rfl, rfl⟩ : _ = r1 ∧ i = r2 ∧ true = r3 := by simpa using h
    clear h
    go_enter Tryd.func27, Tryd.ntmps27
    go_wp2_with (go_at_call 26; refine (spec_UnpackTree.read_ A0 c0 k g s0_0 s0_1 s0_2 n i true w0 _ HI.out HB.out HR.out).mono ?_; rintro e W ⟨rfl, hI1, hB1, hK1⟩; have hbk := hI1.blk.1; have hx_0 := cellS47_0 hbk; have hx_1 := cellS47_1 hbk; have hx_2 := cellS47_2 hbk; have hf_2 := blk_frozen hbk 2; have HX1 := Aside0.mk (And.intro hI1 (And.intro hB1 hK1)); clear hbk hI1 hB1 hK1)
    go_quiet (fail)
    go_wp2
    go_ret
    refine ⟨rfl, spec_UnpackTree.I.drewN HX1.out.1 _ |>.set_2 true, below_set (pw_below_drewN HX1.out.2.1 _) HX1.out.1.ge, KeepBut.set_ (keep_drewN HX1.out.2.2 _) _ _⟩
  | false =>
    rw [if_neg (by decide)] at h
    by_cases hlt : (s0_0.length : Int) - i < n
    · rw [if_pos hlt] at h
      obtain ⟨rfl, rfl, rfl⟩ : _ = r1 ∧ i = r2 ∧ true = r3 := by simpa using h
      have c1 : decide ((s0_0.length : Int) - i < n) = true := decide_eq_true hlt
      clear h hlt
      go_enter Tryd.func27, Tryd.ntmps27
      go_wp2_with (go_at_call 26; refine (spec_UnpackTree.read_ A0 c0 k g s0_0 s0_1 s0_2 n i false w0 _ HI.out HB.out HR.out).mono ?_; rintro e W ⟨rfl, hI1, hB1, hK1⟩; have hbk := hI1.blk.1; have hx_0 := cellS47_0 hbk; have hx_1 := cellS47_1 hbk; have hx_2 := cellS47_2 hbk; have hf_2 := blk_frozen hbk 2; have HX1 := Aside0.mk (And.intro hI1 (And.intro hB1 hK1)); clear hbk hI1 hB1 hK1)
      go_quiet (fail)
      go_wp2
      go_ret
      refine ⟨rfl, spec_UnpackTree.I.drewN HX1.out.1 _ |>.set_2 true, below_set (pw_below_drewN HX1.out.2.1 _) HX1.out.1.ge, KeepBut.set_ (keep_drewN HX1.out.2.2 _) _ _⟩
    · rw [if_neg hlt] at h
      obtain ⟨rfl, rfl, rfl⟩ : _ = r1 ∧ i + n = r2 ∧ false = r3 := by simpa using h
      have c1 : decide ((s0_0.length : Int) - i < n) = false := decide_eq_false hlt
      have hwi : wrap64 i = i := by unfold wrap64; omega
      clear h
      obtain ⟨i0, hi0, _, hsz, _⟩ := info_parts info5
      obtain ⟨A1, hcut, hA, hC⟩ := print_mid_of (P := Tryd.prog) (Value.int .u8) (0 : Int) 22 5 .i64 .i64 Tryd.underlying22 hi0 hsz A0 c0 s0_0 i (i + n) q3 (by omega) (by omega) hcap
      have HCC := Aside0.mk (Kd.C_of_reads (h1 := fun _ => rfl) (hA _ (Kd.reads_of_C HI.out.blk.2)))
      clear hA hC
      go_enter Tryd.func27, Tryd.ntmps27
      go_wp2_with (go_at_call 26; refine (spec_UnpackTree.read_ A0 c0 k g s0_0 s0_1 s0_2 n i false w0 _ HI.out HB.out HR.out).mono ?_; rintro e W ⟨rfl, hI1, hB1, hK1⟩; have hbk := hI1.blk.1; have hx_0 := cellS47_0 hbk; have hx_1 := cellS47_1 hbk; have hx_2 := cellS47_2 hbk; have hf_1 := blk_frozen hbk 1; have HX1 := Aside0.mk (And.intro hI1 (And.intro hB1 hK1)); clear hbk hI1 hB1 hK1)
      go_quiet (fail)
      go_wp2
      have HX2 := Aside0.mk (And.intro ((spec_UnpackTree.I.drewN HX1.out.1 nq).set_1 (i + n)) (And.intro (below_set (v := .int .i64 (i + n)) (j := 1) (pw_below_drewN HX1.out.2.1 nq) HX1.out.1.ge) (KeepBut.set_ (keep_drewN HX1.out.2.2 nq) 1 (.int .i64 (i + n)))))
      clear HX1 hx_0 hx_1 hx_2 hf_1
      generalize (W.drewN nq).setCell ⟨g, 1, none⟩ (.int .i64 (i + n)) = W2 at HX2 ⊢
      have hx_0 := cellS47_0 HX2.out.1.blk.1
      have hx_1 := cellS47_1 HX2.out.1.blk.1
      refine start_ (n := 17) (S := fun w' => w'.cell? ⟨g, 0, none⟩ = some (.slice A0 s0_0.length c0) ∧ w'.cell? ⟨g, 1, none⟩ = some (.int .i64 (i + n))) (ds := []) #[false, false, false, false, false, false, false, false, false, false, false, false, false, false, false, false, false] (by kernel_rfl) rfl rfl ⟨(hx_0 : W2.drew.cell? ⟨g, 0, none⟩ = _), (hx_1 : W2.drew.cell? ⟨g, 1, none⟩ = _)⟩ (fun hHeld => ?_)
      refine pure_ (i := 0) (N := some 36) (v := ?_) (a' := ?_) #[true, false, false, false, false, false, false, false, false, false, false, false, false, false, false, false, false] rfl rfl (by kernel_rfl) (fun _ _ _ h => h) (Or.inl ⟨by rfl, ?_⟩) ?_ ?_
      rotate_left
      · intro w'
        go_simp
        with_reducible rfl
      rotate_left
      · simp only [Act.put, List.setIfInBounds_toArray, List.set_cons_zero, List.set_cons_succ, i64_w, i32_w]
        rfl
      refine pure_ (i := 1) (N := some 37) (v := ?_) (a' := ?_) #[true, true, false, false, false, false, false, false, false, false, false, false, false, false, false, false, false] rfl rfl (by kernel_rfl) (fun _ _ _ h => h) (Or.inl ⟨by rfl, ?_⟩) ?_ ?_
      rotate_left
      · intro w'
        go_simp
        with_reducible rfl
      rotate_left
      · simp only [Act.put, List.setIfInBounds_toArray, List.set_cons_zero, List.set_cons_succ, i64_w, i32_w]
        rfl
      refine pure_ (i := 2) (N := some 38) (v := ?_) (a' := ?_) #[true, true, true, false, false, false, false, false, false, false, false, false, false, false, false, false, false] rfl rfl (by kernel_rfl) (fun _ _ _ h => h) (Or.inl ⟨by rfl, ?_⟩) ?_ ?_
      rotate_left
      · intro w'
        go_simp
        with_reducible rfl
      rotate_left
      · simp only [Act.put, List.setIfInBounds_toArray, List.set_cons_zero, List.set_cons_succ, i64_w, i32_w]
        rfl
      refine pure_ (i := 4) (N := some 40) (v := ?_) (a' := ?_) #[true, true, true, false, true, false, false, false, false, false, false, false, false, false, false, false, false] rfl rfl (by kernel_rfl) (fun _ _ _ h => h) (Or.inl ⟨by rfl, ?_⟩) ?_ ?_
      rotate_left
      · intro w'
        go_simp
        with_reducible rfl
      rotate_left
      · simp only [Act.put, List.setIfInBounds_toArray, List.set_cons_zero, List.set_cons_succ, i64_w, i32_w]
        rfl
      refine pure_ (i := 5) (N := some 41) (v := ?_) (a' := ?_) #[true, true, true, false, true, true, false, false, false, false, false, false, false, false, false, false, false] rfl rfl (by kernel_rfl) (fun _ _ _ h => h) (Or.inl ⟨by rfl, ?_⟩) ?_ ?_
      rotate_left
      · intro w'
        go_simp
        with_reducible rfl
      rotate_left
      · simp only [Act.put, List.setIfInBounds_toArray, List.set_cons_zero, List.set_cons_succ, i64_w, i32_w]
        rfl
      refine pure_ (i := 6) (N := some 42) (v := ?_) (a' := ?_) #[true, true, true, false, true, true, true, false, false, false, false, false, false, false, false, false, false] rfl rfl (by kernel_rfl) (fun _ _ _ h => h) (Or.inl ⟨by rfl, ?_⟩) ?_ ?_
      rotate_left
      · intro w'
        go_simp
        with_reducible rfl
      rotate_left
      · simp only [Act.put, List.setIfInBounds_toArray, List.set_cons_zero, List.set_cons_succ, i64_w, i32_w]
        rfl
      refine pure_ (i := 8) (N := some 44) (v := ?_) (a' := ?_) #[true, true, true, false, true, true, true, false, true, false, false, false, false, false, false, false, false] rfl rfl (by kernel_rfl) (fun _ _ _ h => h) (Or.inl ⟨by rfl, ?_⟩) ?_ ?_
      rotate_left
      · intro w'
        go_simp
        with_reducible rfl
      rotate_left
      · simp only [Act.put, List.setIfInBounds_toArray, List.set_cons_zero, List.set_cons_succ, i64_w, i32_w]
        rfl
      refine pure_ (i := 10) (N := some 46) (v := ?_) (a' := ?_) #[true, true, true, false, true, true, true, false, true, false, true, false, false, false, false, false, false] rfl rfl (by kernel_rfl) (fun _ _ _ h => h) (Or.inl ⟨by rfl, ?_⟩) ?_ ?_
      rotate_left
      · intro w'
        go_simp
        with_reducible rfl
      rotate_left
      · simp only [Act.put, List.setIfInBounds_toArray, List.set_cons_zero, List.set_cons_succ, i64_w, i32_w]
        rfl
      refine pure_ (i := 11) (N := some 47) (v := ?_) (a' := ?_) #[true, true, true, false, true, true, true, false, true, false, true, true, false, false, false, false, false] rfl rfl (by kernel_rfl) (fun _ _ _ h => h) (Or.inl ⟨by rfl, ?_⟩) ?_ ?_
      rotate_left
      · intro w'
        go_simp
        with_reducible rfl
      rotate_left
      · simp only [Act.put, List.setIfInBounds_toArray, List.set_cons_zero, List.set_cons_succ, i64_w, i32_w]
        rfl
      refine pure_ (i := 12) (N := some 48) (v := ?_) (a' := ?_) #[true, true, true, false, true, true, true, false, true, false, true, true, true, false, false, false, false] rfl rfl (by kernel_rfl) (fun _ _ _ h => h) (Or.inl ⟨by rfl, ?_⟩) ?_ ?_
      rotate_left
      · intro w'
        go_simp
        with_reducible rfl
      rotate_left
      · simp only [Act.put, List.setIfInBounds_toArray, List.set_cons_zero, List.set_cons_succ, i64_w, i32_w]
        rfl
      refine take_ (i := 3) (N := some 39) (v := ?_) (a' := ?_) #[true, true, true, true, true, true, true, false, true, false, true, true, true, false, false, false, false] rfl rfl (by kernel_rfl) (fun _ _ _ h => h) (Or.inl ⟨by rfl, ?_⟩) hHeld ?_ ?_
      rotate_left
      · rintro w' ⟨s0, s1⟩
        go_simp
        with_reducible rfl
      rotate_left
      · simp only [Act.put, List.setIfInBounds_toArray, List.set_cons_zero, List.set_cons_succ, i64_w, i32_w]
        rfl
      refine take_ (i := 7) (N := some 43) (v := ?_) (a' := ?_) #[true, true, true, true, true, true, true, true, true, false, true, true, true, false, false, false, false] rfl rfl (by kernel_rfl) (fun _ _ _ h => h) (Or.inl ⟨by rfl, ?_⟩) hHeld ?_ ?_
      rotate_left
      · rintro w' ⟨s0, s1⟩
        go_simp
        with_reducible rfl
      rotate_left
      · simp only [Act.put, List.setIfInBounds_toArray, List.set_cons_zero, List.set_cons_succ, i64_w, i32_w]
        rfl
      refine pure_ (i := 9) (N := some 45) (v := ?_) (a' := ?_) #[true, true, true, true, true, true, true, true, true, true, true, true, true, false, false, false, false] rfl rfl (by kernel_rfl) (fun _ _ _ h => h) (Or.inl ⟨by rfl, ?_⟩) ?_ ?_
      rotate_left
      · intro w'
        go_simp
        with_reducible rfl
      rotate_left
      · simp only [Act.put, List.setIfInBounds_toArray, List.set_cons_zero, List.set_cons_succ, i64_w, i32_w]
        rfl
      refine take_ (i := 13) (N := some 49) (v := ?_) (a' := ?_) #[true, true, true, true, true, true, true, true, true, true, true, true, true, true, false, false, false] rfl rfl (by kernel_rfl) (fun _ _ _ h => h) (Or.inl ⟨by rfl, ?_⟩) hHeld ?_ ?_
      rotate_left
      · rintro w' ⟨s0, s1⟩
        go_simp
        with_reducible rfl
      rotate_left
      · simp only [Act.put, List.setIfInBounds_toArray, List.set_cons_zero, List.set_cons_succ, i64_w, i32_w]
        rfl
      refine pure_ (i := 14) (N := some 50) (v := ?_) (a' := ?_) #[true, true, true, true, true, true, true, true, true, true, true, true, true, true, true, false, false] rfl rfl (by kernel_rfl) (fun _ _ _ h => h) (Or.inl ⟨by rfl, ?_⟩) ?_ ?_
      rotate_left
      · intro w'
        go_simp
        with_reducible rfl
      rotate_left
      · simp only [Act.put, List.setIfInBounds_toArray, List.set_cons_zero, List.set_cons_succ, i64_w, i32_w]
        rfl
      refine one_ (i := 15) (N := some 51) #[true, true, true, true, true, true, true, true, true, true, true, true, true, true, true, true, false] rfl rfl (by kernel_rfl) (by decide) (fun K hK => ?_)
      have hcv6 := Kd.C_string (P := Tryd.prog) (c := c0 - i.toNat) Tryd.underlying22 Tryd.underlying5 Tryd.underlying9 (Kd.C_below HCC.out (below_drew1 HX2.out.2.1))
      simp only [List.length_drop, List.length_take] at hcv6
      refine value_ (w1 := ?_) (v := ?_) (by rfl) rfl ?_ ?_
      rotate_left 2
      · go_simp
        constructor
        · rfl
        · rfl
      clear hcv6
      refine hK.out _ _ ⟨hHeld.1, hHeld.2⟩ (fun hHeld => ?_)
      clear hK K
      refine norm_ (a' := ?_) ?_ ?_
      rotate_left
      · show Act.put _ (some 51) _ = _
        simp only [Act.put, List.setIfInBounds_toArray, List.set_cons_zero, List.set_cons_succ, i64_w, i32_w]
        rfl
      refine pure_ (i := 16) (N := some 2) (v := ?_) (a' := ?_) #[true, true, true, true, true, true, true, true, true, true, true, true, true, true, true, true, true] rfl rfl (by kernel_rfl) (fun _ _ _ h => h) (Or.inl ⟨by rfl, ?_⟩) ?_ ?_
      rotate_left
      · intro w'
        go_simp
        with_reducible rfl
      rotate_left
      · simp only [Act.put, List.setIfInBounds_toArray, List.set_cons_zero, List.set_cons_succ, i64_w, i32_w]
        rfl
      refine done_ (by kernel_rfl) ?_
      go_wp2
      go_ret
      exact ⟨rfl, spec_UnpackTree.I.drew HX2.out.1, below_drew1 HX2.out.2.1, keep_drew HX2.out.2.2⟩
structure spec_UnpackTree.St (w W : World) (A0 : Option Addr) (c0 g gb : Nat) (l : List Int) (i : Int) (b : Bool) (v1 v : Value) (t : List S34) (cs : Array Value) : Prop where
  I : spec_UnpackTree.I A0 c0 w W g l i b
  V : Kd.R k34 34 W w.heap.size (fun q => q = w.heap.size) v1 []
  R : Kd.R k34 34 W w.heap.size (fun q => (q ≠ g ∧ q ≠ w.heap.size) ∧ q ≠ gb) v t
  B : Below w.heap.size w W
  K : W.heap[gb]? = some (.cells cs 34 (0, 0))
  NE : w.heap.size < g ∧ g ≠ gb ∧ w.heap.size < gb
theorem spec_UnpackTree.St.put {w W : World} {A0 : Option Addr} {c0 g gb : Nat} {l : List Int} {i : Int} {b : Bool} {v1 v : Value} {t : List S34} {cs : Array Value} (h : spec_UnpackTree.St w W A0 c0 g gb l i b v1 v t cs) (j : Nat) (u : Value) (cs' : Array Value) (e : cs.setIfInBounds j u = cs') :
    spec_UnpackTree.St w (W.setCell ⟨gb, j, none⟩ u) A0 c0 g gb l i b v1 v t cs' :=
  ⟨h.I.far h.NE.2.1 u, Kd.R_far h.V (fun k hk => by have := h.NE.2.2; show k ≠ gb; omega) u, Kd.R_far h.R (fun _ hk => hk.2) u, below_set h.B (by have := h.NE.2.2; omega), blk_put h.K j u e, h.NE⟩
theorem spec_UnpackTree.St.call {w W W' : World} {A0 : Option Addr} {c0 g gb : Nat} {l : List Int} {i i' : Int} {b b' : Bool} {v1 v : Value} {t : List S34} {cs : Array Value} (h : spec_UnpackTree.St w W A0 c0 g gb l i b v1 v t cs) (hk : KeepBut W W' g none) (hI : spec_UnpackTree.I A0 c0 w W' g l i' b') (hB : Below w.heap.size w W') :
    spec_UnpackTree.St w W' A0 c0 g gb l i' b' v1 v t cs :=
  ⟨hI, Kd.R_keep h.V hk (fun k e => by have := h.NE.1; omega), Kd.R_keep h.R hk (fun _ e => e.1.1), hB, (hk.2 gb (blk_lt h.K) (fun e => h.NE.2.1 e.symm) (by simp)).trans h.K, h.NE⟩
theorem spec_UnpackTree.St.cells {w W : World} {A0 : Option Addr} {c0 g gb : Nat} {l : List Int} {i : Int} {b : Bool} {v1 v : Value} {t : List S34} {x0 x1 x2 x3 : Value} (h : spec_UnpackTree.St w W A0 c0 g gb l i b v1 v t #[x0, x1, x2, x3]) :
    W.cell? ⟨gb, 0, none⟩ = some x0 ∧ W.cell? ⟨gb, 1, none⟩ = some x1 ∧ W.cell? ⟨gb, 2, none⟩ = some x2 ∧ W.cell? ⟨gb, 3, none⟩ = some x3 :=
  ⟨(blk_cell h.K 0).trans rfl, (blk_cell h.K 1).trans rfl, (blk_cell h.K 2).trans rfl, (blk_cell h.K 3).trans rfl⟩
structure spec_UnpackTree.Lt (w W : World) (A0 : Option Addr) (c0 g : Nat) (l : List Int) (i : Int) (b : Bool) (v1 v : Value) (t : List S34) : Prop where
  I : spec_UnpackTree.I A0 c0 w W g l i b
  V : Kd.R k34 34 W w.heap.size (fun q => q = w.heap.size) v1 []
  R : Kd.R k34 34 W w.heap.size (fun q => q ≠ g ∧ q ≠ w.heap.size) v t
  B : Below w.heap.size w W
  NE : w.heap.size < g
theorem spec_UnpackTree.Lt.below {w W W' : World} {A0 : Option Addr} {c0 g : Nat} {l : List Int} {i : Int} {b : Bool} {v1 v : Value} {t : List S34} (h : spec_UnpackTree.Lt w W A0 c0 g l i b v1 v t) (hb : Below W.heap.size W W') : spec_UnpackTree.Lt w W' A0 c0 g l i b v1 v t :=
  ⟨h.I.below hb, Kd.R_below h.V hb, Kd.R_below h.R hb, below_step h.B hb, h.NE⟩
theorem spec_UnpackTree.Lt.start {w W w1 : World} {A0 : Option Addr} {c0 g gb : Nat} {l : List Int} {i x : Int} {b : Bool} {v1 v : Value} {t : List S34} (h : spec_UnpackTree.Lt w W A0 c0 g l i b v1 v t) (hg : gb = (W.setCell ⟨g, 1, none⟩ (.int .i64 x)).heap.size) (hbox : w1.heap[gb]? = some (.cells #[.string (⟨#[]⟩ : ByteArray), .int .i64 0, .string (⟨#[]⟩ : ByteArray), .bool false] 34 (0, 0)))
    (hb : Below (W.setCell ⟨g, 1, none⟩ (.int .i64 x)).heap.size (W.setCell ⟨g, 1, none⟩ (.int .i64 x)) w1) : spec_UnpackTree.St w w1 A0 c0 g gb l x b v1 v t #[.string (⟨#[]⟩ : ByteArray), .int .i64 0, .string (⟨#[]⟩ : ByteArray), .bool false] := by
  have hI2 := h.I.set_1 x
  have hlt := hI2.lt
  have hne := h.NE
  have hB2 : Below w.heap.size w (W.setCell ⟨g, 1, none⟩ (.int .i64 x)) := below_set h.B (by omega)
  exact ⟨hI2.below hb, Kd.R_below (Kd.R_far h.V (fun k e => by show k ≠ g; omega) _) hb, Kd.R_below (Kd.R_elderB (Kd.R_far h.R (fun _ hk => hk.1) _) gb (by omega)) hb, below_step hB2 hb, hbox, ⟨hne, by omega, by omega⟩⟩
theorem spec_UnpackTree.St.more {w W W' : World} {A0 : Option Addr} {c0 g gb : Nat} {l : List Int} {i : Int} {b : Bool} {v1 v v' : Value} {t t' : List S34} {cs : Array Value} (h : spec_UnpackTree.St w W A0 c0 g gb l i b v1 v t cs) (hR : Kd.R k34 34 W' w.heap.size (fun q => (q ≠ g ∧ q ≠ w.heap.size) ∧ q ≠ gb) v' t') (hB : Below w.heap.size w W') (hg : W.grownBy W' v.ownBlock) :
    spec_UnpackTree.Lt w W' A0 c0 g l i b v1 v' t' :=
  ⟨h.I.grown hg (Kd.R_away h.R (fun _ hk => hk.1.1)), Kd.R_grown h.V hg (fun k e => by rw [e]; exact Kd.R_away h.R (fun _ hk => hk.1.2)), Kd.R_mono hR (fun _ hk => hk.1), hB, h.NE.1⟩
theorem spec_UnpackTree.St.fresh {w W : World} {A0 : Option Addr} {c0 g gb : Nat} {l : List Int} {i : Int} {b : Bool} {v1 v : Value} {t : List S34} {cs : Array Value} (h : spec_UnpackTree.St w W A0 c0 g gb l i b v1 v t cs) : ∀ k, W.heap.size ≤ k → (k ≠ g ∧ k ≠ w.heap.size) ∧ k ≠ gb := fun k hk => by
  have h1 := h.I.lt
  have h2 := h.NE
  have h5 := blk_lt h.K
  omega
def spec_UnpackTree.unp : Nat → Nat → List Int → Int → Bool → List S34 → Nat → Option (Option (List S34 × Bool))
  | 0, _, _, _, _, _, _ => none
  | q + 1, k, l, i, b, t, n => if 0 < n then (if b = true then some (some (t, b)) else if (l.length : Int) ≤ i then some none else if 0 ≤ i ∧ 0 ≤ rd l i ∧ rd l i < 256 then
      (spec_UnpackTree.txt k l (i + 1) b).bind fun p => (spec_UnpackTree.txt k l p.2.1 p.2.2).bind fun d => spec_UnpackTree.unp q k l d.2.1 d.2.2 (t ++ [(⟨p.1, rd l i % 16, d.1, (rd l i / 16 == 1)⟩ : S34)]) (n - 1) else none) else some (some (t, b))
def spec_UnpackTree.fin (k : Nat) (l0 : List Int) (o : Option (List S34 × Bool)) : Option (List S34 × Bool) := match o with
  | none => some ([], false)
  | some q => if q.2 = true then some ([], false) else (spec_TreeOk.f k q.1).bind fun ok => if ok = true then (spec_PackTree.f k q.1).bind fun b => (spec_l10Same.f b l0).bind fun sm => if sm = true then some (q.1, true) else some ([], false) else some ([], false)
def spec_UnpackTree.f (k : Nat) (l0 : List Int) : Option (List S34 × Bool) := if l0.length ≤ 1099511627776 then (if l0.length < 4 then some ([], false) else if (strOfNums (l0.take 4)).toList = [76, 65, 82, 49] then
    (spec_l10Read.f k l0 4 false).bind fun r => if 500 < r.1 then some ([], false) else if 0 ≤ r.1 then (spec_UnpackTree.unp 501 k l0 r.2.1 r.2.2 [] r.1.toNat).bind fun o => spec_UnpackTree.fin k l0 o else none
  else some ([], false)) else none
theorem spec_UnpackTree.w1 (i : Int) (h0 : 0 ≤ i) (h : i ≤ 1099511627776) : wrap64 (i + 1) = i + 1 := by unfold wrap64; omega
theorem spec_UnpackTree.wm (n : Nat) (h : n ≤ 500) (h1 : 1 ≤ n) : wrap64 ((n : Int) - 1) = ((n - 1 : Nat) : Int) := by unfold wrap64; omega
theorem spec_UnpackTree.by16 (x : Int) (h0 : 0 ≤ x) (h : x < 256) : wrap64 x = x ∧ Int.tmod x 16 = x % 16 ∧ Int.tdiv x 16 = x / 16 ∧ wrap64 (x % 16) = x % 16 ∧ wrap64 (x / 16) = x / 16 := by
  refine ⟨by unfold wrap64; omega, Int.tmod_eq_emod_of_nonneg h0, Int.tdiv_eq_ediv_of_nonneg h0, by unfold wrap64; omega, by unfold wrap64; omega⟩
set_option maxRecDepth 100000 in
set_option maxHeartbeats 4000000 in
theorem spec_UnpackTree.calls (k : Nat) (A0 : Option Addr) (c0 : Nat) (l0 : List Int) (r1 : List S34) (r2 : Bool) (w : World) (hr0 : Kd.C (Kd.int .u8) w A0 l0.length l0) (hc0 : l0.length ≤ c0) (h : spec_UnpackTree.f k l0 = some (r1, r2)) :
    Calls Tryd.prog 5 #[.slice A0 l0.length c0] w fun e w' => ∃ v0_ : Value, e = .returned (.tuple #[v0_, .bool r2]) ∧ Kd.R k34 34 w' w.heap.size (fun _ => True) v0_ r1 ∧ Below w.heap.size w w' := by
  unfold spec_UnpackTree.f at h
  by_cases hsz : l0.length ≤ 1099511627776
  case neg => rw [if_neg hsz] at h; cases h
  rw [if_pos hsz] at h
  have HR0 := Aside0.mk hr0
  clear hr0
  by_cases h4 : l0.length < 4
  · rw [if_pos h4] at h
    obtain ⟨rfl, rfl⟩ : ([] : List S34) = r1 ∧ false = r2 := by simpa using h
    have c1 : decide ((l0.length : Int) < 4) = true := decide_eq_true (by omega)
    clear h
    go_enter Tryd.func5, Tryd.ntmps5
    go_wp2_with (first | ((with_reducible refine gate_dst (N := 10) rfl ?_); refine Kd.R_lit k34 _ 34 ?hg (N := 10) ?hd (xs := ([] : List S34)) (inner := []) (ok := fun q => q = w.heap.size) (okp := fun q => q = w.heap.size) ?hr ?hp (fun _ hk => hk) rfl (Below.refl _ _) (Nat.le_refl _) (by simp) ?_; (case hd => rfl); (case hg => rfl); (case hr => first | (go_simp; done) | (go_simp; rfl)); (case hp => exact (Reps.none _ _)); intro v1 w1 ho hb hg_ hnew_; obtain ⟨b_, eb_, hb_⟩ := hnew_; have hx_ := (Kd.R_bound ho).1 b_ eb_; have HV := Aside0.mk ho; have HB := Aside0.mk hb; have HLT := Aside0.mk (show w.heap.size < w1.heap.size from by have h1_ := hx_.1; have h2_ := hx_.2.2.1; omega); clear ho hb hg_ hx_ hb_ eb_))
    exact bodyPost_ret (v := .tuple #[v1, .bool false]) (by simp [results, Tryd.results5, go_sem]) rfl ⟨_, rfl, Kd.R_mono HV.out (fun _ _ => trivial), HB.out⟩
  · rw [if_neg h4] at h
    have c1 : decide ((l0.length : Int) < 4) = false := decide_eq_false (by omega)
    obtain ⟨i0, hi0, _, hsz1, _⟩ := info_parts info5
    obtain ⟨hcut, hA, hC⟩ := print_take_of (P := Tryd.prog) (Value.int .u8) (0 : Int) 22 5 .i64 Tryd.underlying22 hi0 hsz1 A0 c0 l0 4 (by omega) (by omega) hc0
    have HCC := Aside0.mk (Kd.C_of_reads (h1 := fun _ => rfl) (hA _ (Kd.reads_of_C HR0.out)))
    clear hA hC
    by_cases hq : (strOfNums (l0.take 4)).toList = [76, 65, 82, 49]
    case neg =>
      rw [if_neg hq] at h
      obtain ⟨rfl, rfl⟩ : ([] : List S34) = r1 ∧ false = r2 := by simpa using h
      have hq1 : ((strOfNums (l0.take 4)).toList == [76, 65, 82, 49]) = false := by simpa using hq
      have hq2 : ((strOfNums (l0.take 4)).toList != [76, 65, 82, 49]) = true := by simpa using hq
      clear h
      go_enter Tryd.func5, Tryd.ntmps5
      go_wp2_with (first | ((with_reducible refine gate_dst (N := 10) rfl ?_); refine Kd.R_lit k34 _ 34 ?hg (N := 10) ?hd (xs := ([] : List S34)) (inner := []) (ok := fun q => q = w.heap.size) (okp := fun q => q = w.heap.size) ?hr ?hp (fun _ hk => hk) rfl (Below.refl _ _) (Nat.le_refl _) (by simp) ?_; (case hd => rfl); (case hg => rfl); (case hr => first | (go_simp; done) | (go_simp; rfl)); (case hp => exact (Reps.none _ _)); intro v1 w1 ho hb hg_ hnew_; obtain ⟨b_, eb_, hb_⟩ := hnew_; have hx_ := (Kd.R_bound ho).1 b_ eb_; have HV := Aside0.mk ho; have HB := Aside0.mk hb; have HLT := Aside0.mk (show w.heap.size < w1.heap.size from by have h1_ := hx_.1; have h2_ := hx_.2.2.1; omega); clear ho hb hg_ hx_ hb_ eb_; have hcv := Kd.C_string (P := Tryd.prog) (c := c0) Tryd.underlying22 Tryd.underlying5 Tryd.underlying9 (Kd.C_below HCC.out HB.out); simp only [List.length_take, Int.reduceToNat] at hcv))
      exact bodyPost_ret (v := .tuple #[v1, .bool false]) (by simp [results, Tryd.results5, go_sem]) rfl ⟨_, rfl, Kd.R_mono HV.out (fun _ _ => trivial), HB.out⟩
    rw [if_pos hq] at h
    have hq1 : ((strOfNums (l0.take 4)).toList == [76, 65, 82, 49]) = true := by simpa using hq
    have hq2 : ((strOfNums (l0.take 4)).toList != [76, 65, 82, 49]) = false := by simpa using hq
    clear hq
    obtain ⟨⟨n0, i1, b1⟩, hn0, h⟩ := Option.bind_eq_some_iff.mp h
    simp only [] at h
    have H0 := Aside0.mk hn0
    clear hn0
    go_enter Tryd.func5, Tryd.ntmps5
    go_upto_region 6 with (first | ((with_reducible refine gate_dst (N := 10) rfl ?_); refine Kd.R_lit k34 _ 34 ?hg (N := 10) ?hd (xs := ([] : List S34)) (inner := []) (ok := fun q => q = w.heap.size) (okp := fun q => q = w.heap.size) ?hr ?hp (fun _ hk => hk) rfl (Below.refl _ _) (Nat.le_refl _) (by simp) ?_; (case hd => rfl); (case hg => rfl); (case hr => first | (go_simp; done) | (go_simp; rfl)); (case hp => exact (Reps.none _ _)); intro v1 w1 ho hb hg_ hnew_; obtain ⟨b_, eb_, hb_⟩ := hnew_; have hx_ := (Kd.R_bound ho).1 b_ eb_; have HV := Aside0.mk ho; have HB := Aside0.mk hb; have HLT := Aside0.mk (show w.heap.size < w1.heap.size from by have h1_ := hx_.1; have h2_ := hx_.2.2.1; omega); clear ho hb hg_ hx_ hb_ eb_; have hcv := Kd.C_string (P := Tryd.prog) (c := c0) Tryd.underlying22 Tryd.underlying5 Tryd.underlying9 (Kd.C_below HCC.out HB.out); simp only [List.length_take, Int.reduceToNat] at hcv) | ((with_reducible refine gate_dst (N := 23) rfl ?_); refine box_event ?hg (N := 23) ?hd (cs := #[.slice A0 l0.length c0, .int .i64 4, .bool false]) (t := 47) ?hr ?_; (case hd => rfl); (case hg => rfl); (case hr => first | (go_simp; done) | (go_simp; rfl)); intro g hg w2 hbox hb; have HI := Aside0.mk (show spec_UnpackTree.I A0 c0 w w2 g l0 4 false from ⟨A0, c0, hbox, ⟨by have := below_size HB.out; omega, rfl, rfl⟩, HR0.out⟩); have HB2 := Aside0.mk (below_step HB.out hb); have HV2 := Aside0.mk (Kd.R_below HV.out hb); have HG := Aside0.mk (show w.heap.size < g from by have := HLT.out; omega); clear HB HV hb hbox hg) | (go_at_call 26; refine (spec_UnpackTree.read_ A0 c0 k g l0 4 false n0 i1 b1 w _ HI.out HB2.out H0.out).mono ?_; rintro e W ⟨rfl, hI1, hB1, hK1⟩; have HV3 := Aside0.mk (Kd.R_keep HV2.out hK1 (fun k e => by have := HG.out; omega)); have HI3 := Aside0.mk hI1; have HB3 := Aside0.mk hB1; clear hI1 hB1 hK1 HI HB2 HV2))
    clear hcut hq1 hq2 HCC hi0 hsz1 HLT c1 hcv
    have hE : ∀ (t1 : List S34) (bb : Bool), some (t1, bb) = some (r1, r2) → t1 = r1 ∧ bb = r2 := fun t1 bb e => by simpa using e
    have HE1 := Aside0.mk hE
    clear hE
    by_cases hbig : 500 < n0
    · rw [if_pos hbig] at h
      obtain ⟨rfl, rfl⟩ := HE1.out _ _ h
      have c2 : decide (500 < n0) = true := decide_eq_true hbig
      clear h
      go_wp2
      exact bodyPost_ret (v := .tuple #[v1, .bool false]) (by simp [results, Tryd.results5, go_sem]) rfl ⟨_, rfl, Kd.R_mono HV3.out (fun _ _ => trivial), HB3.out⟩
    · rw [if_neg hbig] at h
      have c2 : decide (500 < n0) = false := decide_eq_false hbig
      by_cases hpos : 0 ≤ n0
      case neg => rw [if_neg hpos] at h; cases h
      rw [if_pos hpos] at h
      obtain ⟨n0, rfl⟩ : ∃ n : Nat, n0 = n := ⟨n0.toNat, by omega⟩
      rw [Int.toNat_natCast] at h
      obtain ⟨o, hO, h⟩ := Option.bind_eq_some_iff.mp h
      have HO := Aside0.mk hO
      have HH := Aside0.mk h
      have hn0 : n0 ≤ 500 := by omega
      clear hO h hbig hpos
      go_wp2_with (first | ((with_reducible refine gate_dst (N := 29) rfl ?_); refine Kd.R_lit k34 _ 34 ?hg (N := 29) ?hd (xs := ([] : List S34)) (inner := []) (ok := fun _ => True) (okp := fun _ => True) ?hr ?hp (fun _ hk => hk) trivial (Below.refl _ _) (Nat.le_refl _) (by simp) ?_; (case hd => rfl); (case hg => rfl); (case hr => first | (go_simp; done) | (go_simp; rfl)); (case hp => exact (Reps.none _ _)); intro v7 w3 ho hb hg_ hnew_; have HL := Aside0.mk (show spec_UnpackTree.Lt w w3 A0 c0 g l0 i1 b1 v1 v7 [] from ⟨HI3.out.below hb, Kd.R_below HV3.out hb, Kd.R_mono (Kd.R_lower (Kd.R_bound ho) (below_size HB3.out)) (fun k hk => by have h1_ := HI3.out.lt; have h2_ := HG.out; have h3_ := hk.2.1; exact ⟨by omega, by omega⟩), below_step HB3.out hb, HG.out⟩); clear ho hb hg_ hnew_ HI3 HV3 HB3))
      go_loopw [6, 7] (fun v6 v7 W => ∃ (q : Nat) (i : Int) (n : Nat) (b : Bool) (t : List S34), v6 = .int .i64 n ∧ t.length + n ≤ 500 ∧ Aside0 (spec_UnpackTree.unp q k l0 i b t n = some o) ∧ Aside0 (spec_UnpackTree.Lt w W A0 c0 g l0 i b v1 v7 t)) (fun v6 _ _ => (intOf v6).toNat)
      case atStart => exact ⟨501, i1, n0, b1, [], rfl, by simpa using hn0, HO, HL⟩
      case round =>
        clear HL HO hn0 c2
        obtain ⟨q, i, n, b, t, rfl, hlen, HA, HL⟩ := hrel
        obtain ⟨q, rfl⟩ : ∃ q', q = q' + 1 := by
          rcases q with _ | q
          · have := HA.out; rw [spec_UnpackTree.unp] at this; cases this
          · exact ⟨q, rfl⟩
        have hA := HA.out
        rw [spec_UnpackTree.unp] at hA
        clear HA
        have hbk := HL.out.I.blk.1
        have hx_0 := cellS47_0 hbk
        have hx_1 := cellS47_1 hbk
        have hx_2 := cellS47_2 hbk
        have hf_1 := blk_frozen hbk 1
        clear hbk
        obtain ⟨Ar, cr, hvr, hcr, hCr⟩ := Kd.R_reads HL.out.R
        subst hvr
        clear hcr hCr
        by_cases hn : 0 < n
        · rw [if_pos hn] at hA
          have c1 : decide ((0 : Int) < (n : Int)) = true := decide_eq_true (by omega)
          cases b with
          | true =>
            rw [if_pos rfl] at hA
            obtain rfl := Option.some.inj hA
            obtain ⟨rfl, rfl⟩ := HE1.out [] false HH.out
            clear hA HH
            go_wp2
            exact bodyPost_ret (v := .tuple #[v1, .bool false]) (by simp [results, Tryd.results5, go_sem]) rfl ⟨_, rfl, Kd.R_mono HL.out.V (fun _ _ => trivial), HL.out.B⟩
          | false =>
            rw [if_neg (by decide)] at hA
            by_cases hend : (l0.length : Int) ≤ i
            · rw [if_pos hend] at hA
              obtain rfl := Option.some.inj hA
              obtain ⟨rfl, rfl⟩ := HE1.out [] false HH.out
              have c3 : decide ((l0.length : Int) ≤ i) = true := decide_eq_true hend
              clear hA HH
              go_wp2
              exact bodyPost_ret (v := .tuple #[v1, .bool false]) (by simp [results, Tryd.results5, go_sem]) rfl ⟨_, rfl, Kd.R_mono HL.out.V (fun _ _ => trivial), HL.out.B⟩
            · rw [if_neg hend] at hA
              have c3 : decide ((l0.length : Int) ≤ i) = false := decide_eq_false hend
              by_cases hg : 0 ≤ i ∧ 0 ≤ rd l0 i ∧ rd l0 i < 256
              case neg => rw [if_neg hg] at hA; cases hA
              rw [if_pos hg] at hA
              obtain ⟨g1, g2, g3⟩ := hg
              obtain ⟨⟨p, i2, b2⟩, hp1, hA⟩ := Option.bind_eq_some_iff.mp hA
              obtain ⟨⟨d, i3, b3⟩, hp2, hA⟩ := Option.bind_eq_some_iff.mp hA
              have HP1 := Aside0.mk hp1
              have HP2 := Aside0.mk hp2
              have HA2 := Aside0.mk hA
              clear hp1 hp2 hA
              have hw1 := spec_UnpackTree.w1 i g1 (by omega)
              have HW := Aside0.mk (spec_UnpackTree.wm n (by omega) hn)
              have HIx := Aside0.mk (And.intro g1 (And.intro g2 (And.intro g3 hend)))
              have q1 : i < (l0.length : Int) := by omega
              obtain ⟨b16a, b16b, b16c, b16d, b16e⟩ := spec_UnpackTree.by16 (rd l0 i) g2 g3
              obtain ⟨ad, e1, hx_a⟩ := Kd.at_int HR0.out i g1 q1
              cases e1
              replace hx_a := pw_cell_below HL.out.B hx_a
              have p0 : (0 ≤ i) = True := eq_true g1
              have p1 : (i < (l0.length : Int)) = True := eq_true q1
              clear g1 q1 g2 g3 hend
              go_upto_region 16 with (first | ((with_reducible refine gate_dst (N := 9) rfl ?_); refine box_event ?hg (N := 9) ?hd (cs := #[.string (⟨#[]⟩ : ByteArray), .int .i64 0, .string (⟨#[]⟩ : ByteArray), .bool false]) (t := 34) ?hr ?_; (case hd => rfl); (case hg => rfl); (case hr => first | (go_simp; done) | (go_simp; rfl)); intro gb hg w20 hbox hb20; have HS := Aside0.mk (spec_UnpackTree.Lt.start HL.out hg hbox hb20); clear hg hbox hb20 HL hx_0 hx_1 hx_2 hf_1 hx_a; obtain ⟨hcz20_0, hcz20_1, hcz20_2, hcz20_3⟩ := HS.out.cells; have hfz20_0 := blk_frozen HS.out.K 0; have hfz20_1 := blk_frozen HS.out.K 1; have hfz20_2 := blk_frozen HS.out.K 2; have hfz20_3 := blk_frozen HS.out.K 3))
              go_upto_region 18 with (first | (go_at_call 27; have h1_ := HP1; clear HP1; have hS_ : spec_UnpackTree.St w _ _ c0 g gb l0 (i + 1) _ v1 (.slice Ar t.length cr) t #[.string (⟨#[]⟩ : ByteArray), .int .i64 (rd l0 i % 16), .string (⟨#[]⟩ : ByteArray), .bool (rd l0 i / 16 == 1)] := (((HS.out.put 0 _ _ rfl).put 1 _ _ rfl).put 2 _ _ rfl).put 3 _ _ rfl; refine (spec_UnpackTree.text _ c0 k g l0 _ _ _ _ _ w _ hc0 hS_.I hS_.B h1_.out).mono ?_; rintro e W8 ⟨rfl, hI_, hB_, hK_⟩; have HS8 := Aside0.mk (hS_.call hK_ hI_ hB_); clear hS_ hI_ hB_ hK_ h1_ HS hcz20_0 hcz20_1 hcz20_2 hcz20_3 hfz20_0 hfz20_1 hfz20_2 hfz20_3; obtain ⟨hcz21_0, hcz21_1, hcz21_2, hcz21_3⟩ := HS8.out.cells; have hfz21_0 := blk_frozen HS8.out.K 0; have hfz21_1 := blk_frozen HS8.out.K 1; have hfz21_2 := blk_frozen HS8.out.K 2; have hfz21_3 := blk_frozen HS8.out.K 3) | (go_at_call 27; have h1_ := HP2; clear HP2; have hS_ : spec_UnpackTree.St w _ _ c0 g gb l0 i2 _ v1 (.slice Ar t.length cr) t #[.string p, .int .i64 (rd l0 i % 16), .string (⟨#[]⟩ : ByteArray), .bool (rd l0 i / 16 == 1)] := HS8.out.put 0 _ _ rfl; refine (spec_UnpackTree.text _ c0 k g l0 _ _ _ _ _ w _ hc0 hS_.I hS_.B h1_.out).mono ?_; rintro e W9 ⟨rfl, hI_, hB_, hK_⟩; have HS9 := Aside0.mk (hS_.call hK_ hI_ hB_); clear hS_ hI_ hB_ hK_ h1_ HS8 hcz21_0 hcz21_1 hcz21_2 hcz21_3 hfz21_0 hfz21_1 hfz21_2 hfz21_3; obtain ⟨hcz22_0, hcz22_1, hcz22_2, hcz22_3⟩ := HS9.out.cells; have hfz22_0 := blk_frozen HS9.out.K 0; have hfz22_1 := blk_frozen HS9.out.K 1; have hfz22_2 := blk_frozen HS9.out.K 2; have hfz22_3 := blk_frozen HS9.out.K 3))
              go_wp2_with (first | ((with_reducible refine gate_builtin (b := .append) (xs := #[.tmp 77, .tmp 79]) rfl ?_); at_builtin; refine Kd.R_append k34 (w0 := w) w.heap.size rfl (.tmp 77) (.tmp 79) 23 34 (.agg #[(.string ⟨#[]⟩), (.int .i64 0), (.string ⟨#[]⟩), (.bool false)]) 48 rfl Tryd.underlying23 info34 rfl (by decide) (by omega) (.slice Ar t.length cr) t (⟨p, rd l0 i % 16, d, (rd l0 i / 16 == 1)⟩ : S34) [.string p, .int .i64 (rd l0 i % 16), .string d, .bool (rd l0 i / 16 == 1)] (fun q => (q ≠ g ∧ q ≠ w.heap.size) ∧ q ≠ gb) (fun _ => False) rfl (by first | (go_simp; done) | (go_simp; rfl)) ?aP (fun _ hk => hk.elim) ?aF ?aO ?aB ?aS ?aL ?_; (case aP => exact k34_mkM _ _ _ (⟨p, rd l0 i % 16, d, (rd l0 i / 16 == 1)⟩ : S34)); (case aF => exact (HS9.out.put 2 _ _ rfl).fresh); (case aO => exact (HS9.out.put 2 _ _ rfl).R); (case aB => exact (HS9.out.put 2 _ _ rfl).B); (case aS => exact below_size (HS9.out.put 2 _ _ rfl).B); (case aL => omega); intro v3 w22 ho hb3 hg3 hat; have HM := Aside0.mk (spec_UnpackTree.St.more (HS9.out.put 2 _ _ rfl) ho hb3 hg3); clear ho hb3 hg3 hat HS9 hcz22_0 hcz22_1 hcz22_2 hcz22_3 hfz22_0 hfz22_1 hfz22_2 hfz22_3))
              go_roundw
              case measure => simp [intOf]; omega
              case rel => exact ⟨q, i3, n - 1, b3, t ++ [(⟨p, rd l0 i % 16, d, (rd l0 i / 16 == 1)⟩ : S34)], by first | rfl | (rw [HW.out]) | (congr 1; omega), by simp; omega, HA2, HM⟩
        · rw [if_neg hn] at hA
          obtain rfl := Option.some.inj hA
          have c1 : decide ((0 : Int) < (n : Int)) = false := decide_eq_false (by omega)
          clear hA
          cases b with
          | true =>
            obtain ⟨rfl, rfl⟩ := HE1.out [] false HH.out
            clear HH
            go_wp2
            exact bodyPost_ret (v := .tuple #[v1, .bool false]) (by simp [results, Tryd.results5, go_sem]) rfl ⟨_, rfl, Kd.R_mono HL.out.V (fun _ _ => trivial), HL.out.B⟩
          | false =>
            have hH : ((spec_TreeOk.f k t).bind fun ok => if ok = true then (spec_PackTree.f k t).bind fun b => (spec_l10Same.f b l0).bind fun sm => if sm = true then some (t, true) else some ([], false) else some ([], false)) = some (r1, r2) := HH.out
            obtain ⟨ok, hok, hH⟩ := Option.bind_eq_some_iff.mp hH
            have HT := Aside0.mk hok
            clear HH hok
            cases ok with
            | false =>
              rw [if_neg (by decide)] at hH
              obtain ⟨rfl, rfl⟩ := HE1.out _ _ hH
              clear hH
              go_wp2_with (first | (go_at_call 16; refine (spec_TreeOk.calls k Ar cr t false _ (Kd.R_reads' HL.out.R).2.2 (Kd.R_reads' HL.out.R).2.1 HT.out).mono ?_; rintro e w8 ⟨rfl, hb8⟩; have n0_ := Aside0.mk (HL.out.below hb8); clear HL hb8 HT hx_0 hx_1 hx_2 hf_1; have HL := n0_; clear n0_))
              exact bodyPost_ret (v := .tuple #[v1, .bool false]) (by simp [results, Tryd.results5, go_sem]) rfl ⟨_, rfl, Kd.R_mono HL.out.V (fun _ _ => trivial), HL.out.B⟩
            | true =>
              rw [if_pos rfl] at hH
              obtain ⟨bb, hbb, hH⟩ := Option.bind_eq_some_iff.mp hH
              obtain ⟨sm, hsm, hH⟩ := Option.bind_eq_some_iff.mp hH
              have HP := Aside0.mk hbb
              have HS1 := Aside0.mk hsm
              clear hbb hsm
              cases sm with
              | false =>
                rw [if_neg (by decide)] at hH
                obtain ⟨rfl, rfl⟩ := HE1.out _ _ hH
                clear hH
                go_wp2_with (first | (go_at_call 16; refine (spec_TreeOk.calls k Ar cr t true _ (Kd.R_reads' HL.out.R).2.2 (Kd.R_reads' HL.out.R).2.1 HT.out).mono ?_; rintro e w8 ⟨rfl, hb8⟩; have n0_ := Aside0.mk (HL.out.below hb8); clear HL hb8 HT hx_0 hx_1 hx_2 hf_1; have HL := n0_; clear n0_) | (go_at_call 29; refine (spec_PackTree.calls k Ar cr t bb _ (Kd.R_reads' HL.out.R).2.2 (Kd.R_reads' HL.out.R).2.1 HP.out).mono ?_; rintro e w9 ⟨v9_, rfl, hR9, hb9⟩; have n0_ := Aside0.mk (HL.out.below hb9); clear HL hb9 HP; have HL := n0_; clear n0_; obtain ⟨A9, c9, hv9, hc9, hC9⟩ := Kd.R_reads hR9; subst hv9; have HC9 := Aside0.mk hC9; clear hC9 hR9) | (go_at_call 28; refine (spec_l10Same.calls A9 c9 bb _ c0 l0 false _ HC9.out hc9 (Kd.C_below HR0.out HL.out.B) hc0 HS1.out).mono ?_; rintro e w' ⟨rfl, ⟨nd, rfl⟩⟩; have n0_ := Aside0.mk (HL.out.below (pw_below_drewN (Below.refl _ _) nd)); clear HL HC9 HS1; have HL := n0_; clear n0_))
                exact bodyPost_ret (v := .tuple #[v1, .bool false]) (by simp [results, Tryd.results5, go_sem]) rfl ⟨_, rfl, Kd.R_mono HL.out.V (fun _ _ => trivial), HL.out.B⟩
              | true =>
                rw [if_pos rfl] at hH
                obtain ⟨rfl, rfl⟩ := HE1.out _ _ hH
                clear hH
                go_wp2_with (first | (go_at_call 16; refine (spec_TreeOk.calls k Ar cr t true _ (Kd.R_reads' HL.out.R).2.2 (Kd.R_reads' HL.out.R).2.1 HT.out).mono ?_; rintro e w8 ⟨rfl, hb8⟩; have n0_ := Aside0.mk (HL.out.below hb8); clear HL hb8 HT hx_0 hx_1 hx_2 hf_1; have HL := n0_; clear n0_) | (go_at_call 29; refine (spec_PackTree.calls k Ar cr t bb _ (Kd.R_reads' HL.out.R).2.2 (Kd.R_reads' HL.out.R).2.1 HP.out).mono ?_; rintro e w9 ⟨v9_, rfl, hR9, hb9⟩; have n0_ := Aside0.mk (HL.out.below hb9); clear HL hb9 HP; have HL := n0_; clear n0_; obtain ⟨A9, c9, hv9, hc9, hC9⟩ := Kd.R_reads hR9; subst hv9; have HC9 := Aside0.mk hC9; clear hC9 hR9) | (go_at_call 28; refine (spec_l10Same.calls A9 c9 bb _ c0 l0 true _ HC9.out hc9 (Kd.C_below HR0.out HL.out.B) hc0 HS1.out).mono ?_; rintro e w' ⟨rfl, ⟨nd, rfl⟩⟩; have n0_ := Aside0.mk (HL.out.below (pw_below_drewN (Below.refl _ _) nd)); clear HL HC9 HS1; have HL := n0_; clear n0_))
                exact bodyPost_ret (v := .tuple #[.slice Ar t.length cr, .bool true]) (by simp [results, Tryd.results5, go_sem]) rfl ⟨_, rfl, Kd.R_mono HL.out.R (fun _ _ => trivial), HL.out.B⟩
end Go.Proofs.YthaaboajbnkabaaDoor.P
end

section
namespace Go.Proofs.YthaaboajbnkabaaDoor.P
open Go.RowKit Go.Proofs.YthaaboajbnkabaaDoorW.PrintWords Go.Proofs.YthaaboajbnkabaaDoorW.PrintLast Go.Proofs.YthaaboajbnkabaaDoorW.PrintMore Go.Proofs.YthaaboajbnkabaaDoorM
attribute [local go_sem] max2_int min2_int max_two min_two max_three min_three max_four min_four   -- for this text's walks alone
set_option linter.unusedVariables false
set_option linter.unusedSimpArgs false
mutual
def laws_FnExactUnpackTree.j0 : Nat → List Int → List (S34) → Bool → List Int → List (S34) → Bool → Bool → Option (Bool)
  | 0, _, _, _, _, _, _, _ => none
  | k + 1, x0, x3, x4, x5, x6, x7, x37 => if x37 = true then (some false) else ((laws_toByteS.f k x0).bind fun t288 => ((laws_eqByteS.f k x5 t288).bind fun t291 => (if t291 = true then ((laws_markByteS.f k x5 1).bind fun bt292 => (if bt292.1 < 0 then (laws_FnExactUnpackTree.j1 k x0 x3 x4 x6 true) else ((laws_eqEntryS.f k x6 x3).bind fun t294 => (if t294 = true then (laws_FnExactUnpackTree.j1 k x0 x3 x4 x6 (x7 != x4)) else (laws_FnExactUnpackTree.j1 k x0 x3 x4 x6 true))))) else (some false))))
def laws_FnExactUnpackTree.j1 : Nat → List Int → List (S34) → Bool → List (S34) → Bool → Option (Bool)
  | 0, _, _, _, _, _ => none
  | k + 1, x0, x3, x4, x6, x58 => if x58 = true then (some false) else ((laws_markEntryS.f k x6 1).bind fun bt295 => ((laws_heldEntryS.f k bt295.2 1).bind fun t297 => (if t297 < 0 then (some false) else (if t297 = bt295.1 then ((laws_toByteS.f k x0).bind fun t298 => ((impl_UnpackTree.f k t298).bind fun bt301 => ((laws_eqEntryS.f k bt301.1 x3).bind fun t305 => (if t305 = true then (laws_FnExactUnpackTree.j2 k bt295.2 bt295.1 (bt301.2 != x4)) else (laws_FnExactUnpackTree.j2 k bt295.2 bt295.1 true))))) else (some false)))))
def laws_FnExactUnpackTree.j2 : Nat → List (S34) → Int → Bool → Option (Bool)
  | 0, _, _, _ => none
  | k + 1, x6, x9, x84 => if x84 = true then (some false) else ((laws_heldEntryS.f k x6 1).bind fun t306 => (if t306 < 0 then (some false) else (if t306 = x9 then (some true) else (some false))))
end
def laws_FnExactUnpackTree.f (k : Nat) (l0 : List Int) : Option (Bool) := if (l0.length : Int) > 1048576 then (some true) else ((laws_toByteS.f k l0).bind fun t273 => ((spec_UnpackTree.f k t273).bind fun bt276 => ((laws_toByteS.f k l0).bind fun t280 => ((impl_UnpackTree.f k t280).bind fun bt283 => ((laws_eqEntryS.f k bt283.1 bt276.1).bind fun t287 => (if t287 = true then (laws_FnExactUnpackTree.j0 k l0 bt276.1 bt276.2 t280 bt283.1 bt283.2 (bt283.2 != bt276.2)) else (laws_FnExactUnpackTree.j0 k l0 bt276.1 bt276.2 t280 bt283.1 bt283.2 true)))))))
set_option maxHeartbeats 8000000 in
set_option maxRecDepth 100000 in
theorem laws_FnExactUnpackTree.calls (k : Nat) (A0 : Option Addr) (c0 : Nat) (l0 : List Int) (r : Bool) (w : World) (hE : EnvW w) (hr0 : Kd.C (Kd.int .u8) w A0 l0.length l0) (hc0 : l0.length ≤ c0) (h : laws_FnExactUnpackTree.f k l0 = some r) :
    Calls Tryd.prog 3 #[.slice A0 l0.length c0] w fun e w' => e = .returned (.bool r) ∧ Below w.heap.size w w' := by
  have HE := Aside0.mk hE
  clear hE
  have HR0 := Aside0.mk hr0
  have HC0 := Aside0.mk hc0
  clear hr0 hc0
  have HB := Aside0.mk (Below.refl w.heap.size w)
  have H : (if (l0.length : Int) > 1048576 then (some true) else ((laws_toByteS.f k l0).bind fun t273 => ((spec_UnpackTree.f k t273).bind fun bt276 => ((laws_toByteS.f k l0).bind fun t280 => ((impl_UnpackTree.f k t280).bind fun bt283 => ((laws_eqEntryS.f k bt283.1 bt276.1).bind fun t287 => (if t287 = true then (laws_FnExactUnpackTree.j0 k l0 bt276.1 bt276.2 t280 bt283.1 bt283.2 (bt283.2 != bt276.2)) else (laws_FnExactUnpackTree.j0 k l0 bt276.1 bt276.2 t280 bt283.1 bt283.2 true)))))))) = some r := h
  clear h
  by_cases c2 : (l0.length : Int) > 1048576
  · rw [if_pos c2] at H
    have c2b0 : decide (1048576 < (l0.length : Int)) = true := decide_eq_true c2
    have c2b1 : decide (1048576 < l0.length) = true := decide_eq_true (by omega)
    clear c2
    obtain rfl := Option.some.inj H
    go_enter Tryd.func3, Tryd.ntmps3
    go_wp2
    go_ret
    exact ⟨by first | rfl | (simp [errW_none, errW_some] <;> rfl) | (simp [*, errW_none, errW_some] <;> rfl), by repeat (first | (with_reducible first | exact HB.out | apply below_alloc | apply pw_below_drewN | apply below_drew1) | exact HB.out)⟩
  · rw [if_neg c2] at H
    have c2b0 : decide (1048576 < (l0.length : Int)) = false := decide_eq_false c2
    have c2b1 : decide (1048576 < l0.length) = false := decide_eq_false (by omega)
    clear c2
    replace H := Option.bind_eq_some_iff.mp H
    obtain ⟨t273, A30, H⟩ := H
    replace H : ((spec_UnpackTree.f k t273).bind fun bt276 => ((laws_toByteS.f k l0).bind fun t280 => ((impl_UnpackTree.f k t280).bind fun bt283 => ((laws_eqEntryS.f k bt283.1 bt276.1).bind fun t287 => (if t287 = true then (laws_FnExactUnpackTree.j0 k l0 bt276.1 bt276.2 t280 bt283.1 bt283.2 (bt283.2 != bt276.2)) else (laws_FnExactUnpackTree.j0 k l0 bt276.1 bt276.2 t280 bt283.1 bt283.2 true)))))) = some r := H
    have A3 := Aside0.mk A30
    clear A30
    replace H := Option.bind_eq_some_iff.mp H
    obtain ⟨⟨t276, t277⟩, A40, H⟩ := H
    replace H : ((laws_toByteS.f k l0).bind fun t280 => ((impl_UnpackTree.f k t280).bind fun bt283 => ((laws_eqEntryS.f k bt283.1 t276).bind fun t287 => (if t287 = true then (laws_FnExactUnpackTree.j0 k l0 t276 t277 t280 bt283.1 bt283.2 (bt283.2 != t277)) else (laws_FnExactUnpackTree.j0 k l0 t276 t277 t280 bt283.1 bt283.2 true))))) = some r := H
    have A4 := Aside0.mk A40
    clear A40
    replace H := Option.bind_eq_some_iff.mp H
    obtain ⟨t280, A50, H⟩ := H
    replace H : ((impl_UnpackTree.f k t280).bind fun bt283 => ((laws_eqEntryS.f k bt283.1 t276).bind fun t287 => (if t287 = true then (laws_FnExactUnpackTree.j0 k l0 t276 t277 t280 bt283.1 bt283.2 (bt283.2 != t277)) else (laws_FnExactUnpackTree.j0 k l0 t276 t277 t280 bt283.1 bt283.2 true)))) = some r := H
    have A5 := Aside0.mk A50
    clear A50
    replace H := Option.bind_eq_some_iff.mp H
    obtain ⟨⟨t283, t284⟩, A60, H⟩ := H
    replace H : ((laws_eqEntryS.f k t283 t276).bind fun t287 => (if t287 = true then (laws_FnExactUnpackTree.j0 k l0 t276 t277 t280 t283 t284 (t284 != t277)) else (laws_FnExactUnpackTree.j0 k l0 t276 t277 t280 t283 t284 true))) = some r := H
    have A6 := Aside0.mk A60
    clear A60
    have HC7 := Aside0.mk H
    clear H
    go_enter Tryd.func3, Tryd.ntmps3
    go_upto_region 6 with (first | ((with_reducible refine gate_callee (f := 6) rfl ?_); refine goesL_ (some 18) rfl rfl Tryd.func6 (by kernel_rfl) rfl #[.slice A0 l0.length c0] rfl (by (try simp only [List.map_toArray, List.map_cons, List.map_nil]); first | done | rfl | (simp only [List.length_drop, List.length_take]; rfl)) ?_; (with_reducible refine (laws_toByteS.calls k _ _ l0 t273 _ ?side1 ?side2 A3.out).mono ?_); (case side1 => repeat (first | exact HR0.out | (with_reducible refine Kd.C_alloc ?_ _) | (with_reducible refine Kd.C_drewN ?_ _) | (with_reducible refine Kd.C_drew ?_))); (case side2 => exact HC0.out); rintro e w8 ⟨v274, rfl, ho0, hb⟩; refine ⟨_, rfl, ?_⟩; have n0_ := Aside0.mk (Kd.R_lower ho0 (below_size (by repeat (first | (with_reducible first | exact HB.out | apply below_alloc | apply pw_below_drewN | apply below_drew1) | exact HB.out)))); have n1_ := Aside0.mk (below_step (by repeat (first | (with_reducible first | exact HB.out | apply below_alloc | apply pw_below_drewN | apply below_drew1) | exact HB.out)) hb); clear HB; have HO275 := n0_; have HB := n1_; clear n0_ n1_; (try clear hb); (try clear hb2); (try clear hk); (try clear hi); (try clear ho0); obtain ⟨Ao9, co9, eo9⟩ := Kd.R_slice HO275.out; subst eo9) | ((with_reducible refine gate_callee (f := 5) rfl ?_); refine goesL_ (some 19) rfl rfl Tryd.func5 (by kernel_rfl) rfl #[.slice Ao9 t273.length co9] rfl (by (try simp only [List.map_toArray, List.map_cons, List.map_nil]); first | done | rfl | (simp only [List.length_drop, List.length_take]; rfl)) ?_; (with_reducible refine (spec_UnpackTree.calls k _ _ t273 t276 t277 _ ?side1 ?side2 A4.out).mono ?_); (case side1 => repeat (first | exact (Kd.R_reads' HO275.out).2.2 | (with_reducible refine Kd.C_alloc ?_ _) | (with_reducible refine Kd.C_drewN ?_ _) | (with_reducible refine Kd.C_drew ?_))); (case side2 => exact (Kd.R_reads' HO275.out).2.1); rintro e w10 ⟨v278, rfl, ho0, hb⟩; refine ⟨_, rfl, ?_⟩; have n0_ := Aside0.mk (Kd.R_below (by (with_reducible repeat (first | apply Kd.R_alloc | apply Kd.R_drewN | apply Kd.R_drew)); exact HO275.out) hb); have n1_ := Aside0.mk (Kd.R_lower ho0 (below_size (by repeat (first | (with_reducible first | exact HB.out | apply below_alloc | apply pw_below_drewN | apply below_drew1) | exact HB.out)))); have n2_ := Aside0.mk (below_step (by repeat (first | (with_reducible first | exact HB.out | apply below_alloc | apply pw_below_drewN | apply below_drew1) | exact HB.out)) hb); clear HO275; clear HB; have HO275 := n0_; have HO279 := n1_; have HB := n2_; clear n0_ n1_ n2_; (try clear hb); (try clear hb2); (try clear hk); (try clear hi); (try clear ho0)) | ((with_reducible refine gate_callee (f := 6) rfl ?_); refine goesL_ (some 23) rfl rfl Tryd.func6 (by kernel_rfl) rfl #[.slice A0 l0.length c0] rfl (by (try simp only [List.map_toArray, List.map_cons, List.map_nil]); first | done | rfl | (simp only [List.length_drop, List.length_take]; rfl)) ?_; (with_reducible refine (laws_toByteS.calls k _ _ l0 t280 _ ?side1 ?side2 A5.out).mono ?_); (case side1 => repeat (first | exact (Kd.C_below HR0.out HB.out) | (with_reducible refine Kd.C_alloc ?_ _) | (with_reducible refine Kd.C_drewN ?_ _) | (with_reducible refine Kd.C_drew ?_))); (case side2 => exact HC0.out); rintro e w11 ⟨v281, rfl, ho0, hb⟩; refine ⟨_, rfl, ?_⟩; have n0_ := Aside0.mk (Kd.R_elder' (by (with_reducible repeat (first | apply Kd.R_alloc | apply Kd.R_drewN | apply Kd.R_drew)); exact HO275.out) (Kd.R_base ho0) hb); have n1_ := Aside0.mk (Kd.R_below (by (with_reducible repeat (first | apply Kd.R_alloc | apply Kd.R_drewN | apply Kd.R_drew)); exact HO279.out) hb); have n2_ := Aside0.mk (Kd.R_lower (Kd.R_new' ho0 (Kd.R_lt (by (with_reducible repeat (first | apply Kd.R_alloc | apply Kd.R_drewN | apply Kd.R_drew)); exact HO275.out))) (below_size (by repeat (first | (with_reducible first | exact HB.out | apply below_alloc | apply pw_below_drewN | apply below_drew1) | exact HB.out)))); have n3_ := Aside0.mk (below_step (by repeat (first | (with_reducible first | exact HB.out | apply below_alloc | apply pw_below_drewN | apply below_drew1) | exact HB.out)) hb); clear HO275; clear HO279; clear HB; have HO275 := n0_; have HO279 := n1_; have HO282 := n2_; have HB := n3_; clear n0_ n1_ n2_ n3_; (try clear hb); (try clear hb2); (try clear hk); (try clear hi); (try clear ho0); obtain ⟨Ao12, co12, eo12⟩ := Kd.R_slice HO282.out; subst eo12) | ((with_reducible refine gate_callee (f := 7) rfl ?_); refine goesL_ (some 26) rfl rfl Tryd.func7 (by kernel_rfl) rfl #[.slice Ao12 t280.length co12] rfl (by (try simp only [List.map_toArray, List.map_cons, List.map_nil]); first | done | rfl | (simp only [List.length_drop, List.length_take]; rfl)) ?_; (with_reducible refine (impl_UnpackTree.calls k _ _ t280 t283 t284 _ ?side1 ?side2 ?side3 A6.out).mono ?_); (case side1 => refine EnvW.below HE.out ?_; repeat (first | (with_reducible first | exact HB.out | apply below_alloc | apply pw_below_drewN | apply below_drew1) | exact HB.out)); (case side2 => repeat (first | exact (Kd.R_reads' HO282.out).2.2 | (with_reducible refine Kd.C_alloc ?_ _) | (with_reducible refine Kd.C_drewN ?_ _) | (with_reducible refine Kd.C_drew ?_))); (case side3 => exact (Kd.R_reads' HO282.out).2.1); rintro e w13 ⟨v285, rfl, ho0, hb⟩; refine ⟨_, rfl, ?_⟩; have n0_ := Aside0.mk (Kd.R_below (by (with_reducible repeat (first | apply Kd.R_alloc | apply Kd.R_drewN | apply Kd.R_drew)); exact HO275.out) hb); have n1_ := Aside0.mk (Kd.R_elder' (by (with_reducible repeat (first | apply Kd.R_alloc | apply Kd.R_drewN | apply Kd.R_drew)); exact HO279.out) (Kd.R_base ho0) hb); have n2_ := Aside0.mk (Kd.R_below (by (with_reducible repeat (first | apply Kd.R_alloc | apply Kd.R_drewN | apply Kd.R_drew)); exact HO282.out) hb); have n3_ := Aside0.mk (Kd.R_lower (Kd.R_new' ho0 (Kd.R_lt (by (with_reducible repeat (first | apply Kd.R_alloc | apply Kd.R_drewN | apply Kd.R_drew)); exact HO279.out))) (below_size (by repeat (first | (with_reducible first | exact HB.out | apply below_alloc | apply pw_below_drewN | apply below_drew1) | exact HB.out)))); have n4_ := Aside0.mk (below_step (by repeat (first | (with_reducible first | exact HB.out | apply below_alloc | apply pw_below_drewN | apply below_drew1) | exact HB.out)) hb); clear HO275; clear HO279; clear HO282; clear HB; have HO275 := n0_; have HO279 := n1_; have HO282 := n2_; have HO286 := n3_; have HB := n4_; clear n0_ n1_ n2_ n3_ n4_; (try clear hb); (try clear hb2); (try clear hk); (try clear hi); (try clear ho0)))
    (try simp only [Act.put, List.setIfInBounds_toArray, List.set_cons_zero, List.set_cons_succ])
    go_cut [37] (fun v37 wc => ∃ (kq : Nat) (x37_6 : Bool), v37 = .bool x37_6 ∧ Aside0 (laws_FnExactUnpackTree.j0 kq l0 t276 t277 t280 t283 t284 x37_6 = some r) ∧ Aside0 (kq ≤ k) ∧ Aside0 (Kd.R k34 34 wc w.heap.size (fun k_ => some k_ ≠ (v285 : Value).ownBlock) v278 t276) ∧ Aside0 (Kd.R (Kd.int .u8) 5 wc w.heap.size (fun _ => True) (.slice Ao12 t280.length co12) t280) ∧ Aside0 (Kd.R k34 34 wc w.heap.size (fun k_ => some k_ ≠ (v278 : Value).ownBlock) v285 t283) ∧ Aside0 (Below w.heap.size w wc))
    case first =>
      have H := HC7.out
      clear HC7
      replace H := Option.bind_eq_some_iff.mp H
      obtain ⟨t287, A140, H⟩ := H
      replace H : (if t287 = true then (laws_FnExactUnpackTree.j0 k l0 t276 t277 t280 t283 t284 (t284 != t277)) else (laws_FnExactUnpackTree.j0 k l0 t276 t277 t280 t283 t284 true)) = some r := H
      have A14 := Aside0.mk A140
      clear A140
      by_cases c15 : t287 = true
      · subst c15
        have H1 : (laws_FnExactUnpackTree.j0 k l0 t276 t277 t280 t283 t284 (t284 != t277)) = some r := by rw [if_pos rfl] at H; exact H
        clear H
        have H := H1
        clear H1
        have H' := Aside0.mk H
        clear H
        obtain ⟨Ao16, co16, eo16⟩ := Kd.R_slice HO286.out
        subst eo16
        obtain ⟨Ao17, co17, eo17⟩ := Kd.R_slice HO279.out
        subst eo17
        go_wp2_with (first | ((with_reducible refine gate_callee (f := 8) rfl ?_); refine goesL_ (some 31) rfl rfl Tryd.func8 (by kernel_rfl) rfl #[.slice Ao16 t283.length co16, .slice Ao17 t276.length co17] rfl (by (try simp only [List.map_toArray, List.map_cons, List.map_nil]); first | done | rfl | (simp only [List.length_drop, List.length_take]; rfl)) ?_; (with_reducible refine (laws_eqEntryS.calls k _ _ t283 _ _ t276 true _ ?side1 ?side2 ?side3 ?side4 A14.out).mono ?_); (case side1 => repeat (first | exact (Kd.R_reads' HO286.out).2.2 | (with_reducible refine Kd.C_alloc ?_ _) | (with_reducible refine Kd.C_drewN ?_ _) | (with_reducible refine Kd.C_drew ?_))); (case side2 => exact (Kd.R_reads' HO286.out).2.1); (case side3 => repeat (first | exact (Kd.R_reads' HO279.out).2.2 | (with_reducible refine Kd.C_alloc ?_ _) | (with_reducible refine Kd.C_drewN ?_ _) | (with_reducible refine Kd.C_drew ?_))); (case side4 => exact (Kd.R_reads' HO279.out).2.1); rintro e w18 ⟨rfl, hb⟩; refine ⟨_, rfl, ?_⟩; have n0_ := Aside0.mk (Kd.R_below (by (with_reducible repeat (first | apply Kd.R_alloc | apply Kd.R_drewN | apply Kd.R_drew)); exact HO275.out) hb); have n1_ := Aside0.mk (Kd.R_below (by (with_reducible repeat (first | apply Kd.R_alloc | apply Kd.R_drewN | apply Kd.R_drew)); exact HO279.out) hb); have n2_ := Aside0.mk (Kd.R_below (by (with_reducible repeat (first | apply Kd.R_alloc | apply Kd.R_drewN | apply Kd.R_drew)); exact HO282.out) hb); have n3_ := Aside0.mk (Kd.R_below (by (with_reducible repeat (first | apply Kd.R_alloc | apply Kd.R_drewN | apply Kd.R_drew)); exact HO286.out) hb); have n4_ := Aside0.mk (below_step (by repeat (first | (with_reducible first | exact HB.out | apply below_alloc | apply pw_below_drewN | apply below_drew1) | exact HB.out)) hb); clear HO275; clear HO279; clear HO282; clear HO286; clear HB; have HO275 := n0_; have HO279 := n1_; have HO282 := n2_; have HO286 := n3_; have HB := n4_; clear n0_ n1_ n2_ n3_ n4_; (try clear hb); (try clear hb2); (try clear hk); (try clear hi)))
        go_meet
        case rel => exact ⟨_, ((t284 != t277)), (by first | rfl | (simp; done) | (simp [*]; done)), H', ⟨by first | omega | exact Nat.le_refl _⟩, ⟨by (with_reducible repeat (first | apply Kd.R_alloc | apply Kd.R_drewN | apply Kd.R_drew)); exact Kd.R_mono HO279.out (fun _ hk => hk.2)⟩, ⟨by (with_reducible repeat (first | apply Kd.R_alloc | apply Kd.R_drewN | apply Kd.R_drew)); exact Kd.R_mono HO282.out (fun _ hk => trivial)⟩, ⟨by (with_reducible repeat (first | apply Kd.R_alloc | apply Kd.R_drewN | apply Kd.R_drew)); exact Kd.R_mono HO286.out (fun _ hk => hk.2)⟩, ⟨by repeat (first | (with_reducible first | exact HB.out | apply below_alloc | apply pw_below_drewN | apply below_drew1) | exact HB.out)⟩⟩
      · replace c15 := Bool.eq_false_iff.mpr c15
        subst c15
        have H1 : (laws_FnExactUnpackTree.j0 k l0 t276 t277 t280 t283 t284 true) = some r := by rw [if_neg (show ¬ (false = true) by decide)] at H; exact H
        clear H
        have H := H1
        clear H1
        have H' := Aside0.mk H
        clear H
        obtain ⟨Ao19, co19, eo19⟩ := Kd.R_slice HO286.out
        subst eo19
        obtain ⟨Ao20, co20, eo20⟩ := Kd.R_slice HO279.out
        subst eo20
        go_wp2_with (first | ((with_reducible refine gate_callee (f := 8) rfl ?_); refine goesL_ (some 31) rfl rfl Tryd.func8 (by kernel_rfl) rfl #[.slice Ao19 t283.length co19, .slice Ao20 t276.length co20] rfl (by (try simp only [List.map_toArray, List.map_cons, List.map_nil]); first | done | rfl | (simp only [List.length_drop, List.length_take]; rfl)) ?_; (with_reducible refine (laws_eqEntryS.calls k _ _ t283 _ _ t276 false _ ?side1 ?side2 ?side3 ?side4 A14.out).mono ?_); (case side1 => repeat (first | exact (Kd.R_reads' HO286.out).2.2 | (with_reducible refine Kd.C_alloc ?_ _) | (with_reducible refine Kd.C_drewN ?_ _) | (with_reducible refine Kd.C_drew ?_))); (case side2 => exact (Kd.R_reads' HO286.out).2.1); (case side3 => repeat (first | exact (Kd.R_reads' HO279.out).2.2 | (with_reducible refine Kd.C_alloc ?_ _) | (with_reducible refine Kd.C_drewN ?_ _) | (with_reducible refine Kd.C_drew ?_))); (case side4 => exact (Kd.R_reads' HO279.out).2.1); rintro e w21 ⟨rfl, hb⟩; refine ⟨_, rfl, ?_⟩; have n0_ := Aside0.mk (Kd.R_below (by (with_reducible repeat (first | apply Kd.R_alloc | apply Kd.R_drewN | apply Kd.R_drew)); exact HO275.out) hb); have n1_ := Aside0.mk (Kd.R_below (by (with_reducible repeat (first | apply Kd.R_alloc | apply Kd.R_drewN | apply Kd.R_drew)); exact HO279.out) hb); have n2_ := Aside0.mk (Kd.R_below (by (with_reducible repeat (first | apply Kd.R_alloc | apply Kd.R_drewN | apply Kd.R_drew)); exact HO282.out) hb); have n3_ := Aside0.mk (Kd.R_below (by (with_reducible repeat (first | apply Kd.R_alloc | apply Kd.R_drewN | apply Kd.R_drew)); exact HO286.out) hb); have n4_ := Aside0.mk (below_step (by repeat (first | (with_reducible first | exact HB.out | apply below_alloc | apply pw_below_drewN | apply below_drew1) | exact HB.out)) hb); clear HO275; clear HO279; clear HO282; clear HO286; clear HB; have HO275 := n0_; have HO279 := n1_; have HO282 := n2_; have HO286 := n3_; have HB := n4_; clear n0_ n1_ n2_ n3_ n4_; (try clear hb); (try clear hb2); (try clear hk); (try clear hi)))
        go_meet
        case rel => exact ⟨_, (true), (by first | rfl | (simp; done) | (simp [*]; done)), H', ⟨by first | omega | exact Nat.le_refl _⟩, ⟨by (with_reducible repeat (first | apply Kd.R_alloc | apply Kd.R_drewN | apply Kd.R_drew)); exact Kd.R_mono HO279.out (fun _ hk => hk.2)⟩, ⟨by (with_reducible repeat (first | apply Kd.R_alloc | apply Kd.R_drewN | apply Kd.R_drew)); exact Kd.R_mono HO282.out (fun _ hk => trivial)⟩, ⟨by (with_reducible repeat (first | apply Kd.R_alloc | apply Kd.R_drewN | apply Kd.R_drew)); exact Kd.R_mono HO286.out (fun _ hk => hk.2)⟩, ⟨by repeat (first | (with_reducible first | exact HB.out | apply below_alloc | apply pw_below_drewN | apply below_drew1) | exact HB.out)⟩⟩
    case rest =>
      clear HC7
      try clear c1
      try clear c2
      try clear c2b0
      try clear c2b1
      try clear p2
      try clear c3
      try clear c5
      try clear c6
      try clear c7
      try clear c8
      try clear c15
      obtain ⟨kq, x37_6, rfl, HA, HJ6, HO_3, HO_5, HO_6, HB⟩ := hcut
      cases kq with
      | zero => exact absurd HA.out (by simp [laws_FnExactUnpackTree.j0])
      | succ kj6 =>
        have H := HA.out
        clear HA
        simp only [laws_FnExactUnpackTree.j0] at H
        by_cases c22 : x37_6 = true
        · subst c22
          have H1 : (some false) = some r := by rw [if_pos rfl] at H; exact H
          clear H
          have H := H1
          clear H1
          obtain rfl := Option.some.inj H
          go_wp2
          go_ret
          exact ⟨by first | rfl | (simp [errW_none, errW_some] <;> rfl) | (simp [*, errW_none, errW_some] <;> rfl), by repeat (first | (with_reducible first | exact HB.out | apply below_alloc | apply pw_below_drewN | apply below_drew1) | exact HB.out)⟩
        · replace c22 := Bool.eq_false_iff.mpr c22
          subst c22
          have H1 : ((laws_toByteS.f kj6 l0).bind fun t288 => ((laws_eqByteS.f kj6 t280 t288).bind fun t291 => (if t291 = true then ((laws_markByteS.f kj6 t280 1).bind fun bt292 => (if bt292.1 < 0 then (laws_FnExactUnpackTree.j1 kj6 l0 t276 t277 t283 true) else ((laws_eqEntryS.f kj6 t283 t276).bind fun t294 => (if t294 = true then (laws_FnExactUnpackTree.j1 kj6 l0 t276 t277 t283 (t284 != t277)) else (laws_FnExactUnpackTree.j1 kj6 l0 t276 t277 t283 true))))) else (some false)))) = some r := by rw [if_neg (show ¬ (false = true) by decide)] at H; exact H
          clear H
          have H := H1
          clear H1
          replace H := Option.bind_eq_some_iff.mp H
          obtain ⟨t288, A230, H⟩ := H
          replace H : ((laws_eqByteS.f kj6 t280 t288).bind fun t291 => (if t291 = true then ((laws_markByteS.f kj6 t280 1).bind fun bt292 => (if bt292.1 < 0 then (laws_FnExactUnpackTree.j1 kj6 l0 t276 t277 t283 true) else ((laws_eqEntryS.f kj6 t283 t276).bind fun t294 => (if t294 = true then (laws_FnExactUnpackTree.j1 kj6 l0 t276 t277 t283 (t284 != t277)) else (laws_FnExactUnpackTree.j1 kj6 l0 t276 t277 t283 true))))) else (some false))) = some r := H
          have A23 := Aside0.mk A230
          clear A230
          replace H := Option.bind_eq_some_iff.mp H
          obtain ⟨t291, A240, H⟩ := H
          replace H : (if t291 = true then ((laws_markByteS.f kj6 t280 1).bind fun bt292 => (if bt292.1 < 0 then (laws_FnExactUnpackTree.j1 kj6 l0 t276 t277 t283 true) else ((laws_eqEntryS.f kj6 t283 t276).bind fun t294 => (if t294 = true then (laws_FnExactUnpackTree.j1 kj6 l0 t276 t277 t283 (t284 != t277)) else (laws_FnExactUnpackTree.j1 kj6 l0 t276 t277 t283 true))))) else (some false)) = some r := H
          have A24 := Aside0.mk A240
          clear A240
          by_cases c25 : t291 = true
          · subst c25
            have H1 : ((laws_markByteS.f kj6 t280 1).bind fun bt292 => (if bt292.1 < 0 then (laws_FnExactUnpackTree.j1 kj6 l0 t276 t277 t283 true) else ((laws_eqEntryS.f kj6 t283 t276).bind fun t294 => (if t294 = true then (laws_FnExactUnpackTree.j1 kj6 l0 t276 t277 t283 (t284 != t277)) else (laws_FnExactUnpackTree.j1 kj6 l0 t276 t277 t283 true))))) = some r := by rw [if_pos rfl] at H; exact H
            clear H
            have H := H1
            clear H1
            replace H := Option.bind_eq_some_iff.mp H
            obtain ⟨⟨t292, t293⟩, A260, H⟩ := H
            replace H : (if t292 < 0 then (laws_FnExactUnpackTree.j1 kj6 l0 t276 t277 t283 true) else ((laws_eqEntryS.f kj6 t283 t276).bind fun t294 => (if t294 = true then (laws_FnExactUnpackTree.j1 kj6 l0 t276 t277 t283 (t284 != t277)) else (laws_FnExactUnpackTree.j1 kj6 l0 t276 t277 t283 true)))) = some r := H
            have A26 := Aside0.mk A260
            clear A260
            have HC27 := Aside0.mk H
            clear H
            go_upto_region 12 with (first | ((with_reducible refine gate_callee (f := 6) rfl ?_); refine goesL_ (some 40) rfl rfl Tryd.func6 (by kernel_rfl) rfl #[.slice A0 l0.length c0] rfl (by (try simp only [List.map_toArray, List.map_cons, List.map_nil]); first | done | rfl | (simp only [List.length_drop, List.length_take]; rfl)) ?_; (with_reducible refine (laws_toByteS.calls kj6 _ _ l0 t288 _ ?side1 ?side2 A23.out).mono ?_); (case side1 => repeat (first | exact (Kd.C_below HR0.out HB.out) | (with_reducible refine Kd.C_alloc ?_ _) | (with_reducible refine Kd.C_drewN ?_ _) | (with_reducible refine Kd.C_drew ?_))); (case side2 => exact HC0.out); rintro e w28 ⟨v289, rfl, ho0, hb⟩; refine ⟨_, rfl, ?_⟩; have n0_ := Aside0.mk (Kd.R_below (by (with_reducible repeat (first | apply Kd.R_alloc | apply Kd.R_drewN | apply Kd.R_drew)); exact HO_3.out) hb); have n1_ := Aside0.mk (Kd.R_elder' (by (with_reducible repeat (first | apply Kd.R_alloc | apply Kd.R_drewN | apply Kd.R_drew)); exact HO_5.out) (Kd.R_base ho0) hb); have n2_ := Aside0.mk (Kd.R_below (by (with_reducible repeat (first | apply Kd.R_alloc | apply Kd.R_drewN | apply Kd.R_drew)); exact HO_6.out) hb); have n3_ := Aside0.mk (Kd.R_lower (Kd.R_new' ho0 (Kd.R_lt (by (with_reducible repeat (first | apply Kd.R_alloc | apply Kd.R_drewN | apply Kd.R_drew)); exact HO_5.out))) (below_size (by repeat (first | (with_reducible first | exact HB.out | apply below_alloc | apply pw_below_drewN | apply below_drew1) | exact HB.out)))); have n4_ := Aside0.mk (below_step (by repeat (first | (with_reducible first | exact HB.out | apply below_alloc | apply pw_below_drewN | apply below_drew1) | exact HB.out)) hb); clear HO_3; clear HO_5; clear HO_6; clear HB; have HO_3 := n0_; have HO_5 := n1_; have HO_6 := n2_; have HO290 := n3_; have HB := n4_; clear n0_ n1_ n2_ n3_ n4_; (try clear hb); (try clear hb2); (try clear hk); (try clear hi); (try clear ho0); obtain ⟨Ao29, co29, eo29⟩ := Kd.R_slice HO290.out; subst eo29) | ((with_reducible refine gate_callee (f := 9) rfl ?_); refine goesL_ (some 41) rfl rfl Tryd.func9 (by kernel_rfl) rfl #[.slice Ao12 t280.length co12, .slice Ao29 t288.length co29] rfl (by (try simp only [List.map_toArray, List.map_cons, List.map_nil]); first | done | rfl | (simp only [List.length_drop, List.length_take]; rfl)) ?_; (with_reducible refine (laws_eqByteS.calls kj6 _ _ t280 _ _ t288 true _ ?side1 ?side2 ?side3 ?side4 A24.out).mono ?_); (case side1 => repeat (first | exact (Kd.R_reads' HO_5.out).2.2 | (with_reducible refine Kd.C_alloc ?_ _) | (with_reducible refine Kd.C_drewN ?_ _) | (with_reducible refine Kd.C_drew ?_))); (case side2 => exact (Kd.R_reads' HO_5.out).2.1); (case side3 => repeat (first | exact (Kd.R_reads' HO290.out).2.2 | (with_reducible refine Kd.C_alloc ?_ _) | (with_reducible refine Kd.C_drewN ?_ _) | (with_reducible refine Kd.C_drew ?_))); (case side4 => exact (Kd.R_reads' HO290.out).2.1); rintro e w' ⟨rfl, ⟨nd, rfl⟩⟩; refine ⟨_, rfl, ?_⟩) | ((with_reducible refine gate_callee (f := 10) rfl ?_); refine goesL_ (some 45) rfl rfl Tryd.func10 (by kernel_rfl) rfl #[.slice Ao12 t280.length co12, .int .i64 1] rfl (by (try simp only [List.map_toArray, List.map_cons, List.map_nil]); first | done | rfl | (simp only [List.length_drop, List.length_take]; rfl)) ?_; (with_reducible refine (laws_markByteS.calls kj6 (fun k_ => some k_ = (.slice Ao12 t280.length co12 : Value).ownBlock) (.slice Ao12 t280.length co12) t280 1 t292 t293 w _ ?side1 ?side2 A26.out).mono ?_); (case side1 => repeat (first | (with_reducible first | exact HB.out | apply below_alloc | apply pw_below_drewN | apply below_drew1) | exact HB.out)); (case side2 => exact Kd.R_tight rfl HO_5.out); rintro e w30 ⟨rfl, hy0, hb, hkp⟩; refine ⟨_, rfl, ?_⟩; have n0_ := Aside0.mk (Kd.R_mono (ok' := fun k_ => some k_ ≠ (v285 : Value).ownBlock) (Kd.R_keptB ((Kd.R_apart' HO_3.out (Kd.R_typed HO_5.out) (by decide))) hkp (fun k_ hk_ hs_ => (hk_.2) hs_)) (fun k_ hk_ => hk_.1.1)); have n1_ := Aside0.mk (Kd.R_reok rfl hy0 (fun k_ e_ => HO_5.out.1 k_ e_)); have n2_ := Aside0.mk (Kd.R_mono (ok' := fun k_ => some k_ ≠ (v278 : Value).ownBlock) (Kd.R_keptB ((Kd.R_apart' HO_6.out (Kd.R_typed HO_5.out) (by decide))) hkp (fun k_ hk_ hs_ => (hk_.2) hs_)) (fun k_ hk_ => hk_.1.1)); have n3_ := Aside0.mk (Kd.R_mono (ok' := fun k_ => some k_ ≠ (.slice Ao12 t280.length co12 : Value).ownBlock) (Kd.R_keptB (HO290.out) hkp (fun k_ hk_ hs_ => (hk_.2) hs_)) (fun k_ hk_ => hk_.1.2)); have n4_ := Aside0.mk (hb); clear HO_3; clear HO_5; clear HO_6; clear HO290; clear HB; have HO_3 := n0_; have HO_5 := n1_; have HO_6 := n2_; have HO290 := n3_; have HB := n4_; clear n0_ n1_ n2_ n3_ n4_; (try clear hb); (try clear hkp); (try clear hy0)))
            (try simp only [Act.put, List.setIfInBounds_toArray, List.set_cons_zero, List.set_cons_succ])
            go_cut [58] (fun v58 wc => ∃ (kq : Nat) (x58_26 : Bool), v58 = .bool x58_26 ∧ Aside0 (laws_FnExactUnpackTree.j1 kq l0 t276 t277 t283 x58_26 = some r) ∧ Aside0 (kq ≤ kj6) ∧ Aside0 (Kd.R k34 34 wc w.heap.size (fun k_ => some k_ ≠ (v285 : Value).ownBlock) v278 t276) ∧ Aside0 (Kd.R k34 34 wc w.heap.size (fun k_ => some k_ ≠ (v278 : Value).ownBlock) v285 t283) ∧ Aside0 (Below w.heap.size w wc))
            case first =>
              have H := HC27.out
              clear HC27
              by_cases c31 : t292 < 0
              · rw [if_pos c31] at H
                have c31b0 : decide (t292 < 0) = true := decide_eq_true c31
                clear c31
                (first | rw [c31b0] | (simp only [i64_w, i32_w]; rw [c31b0]) | skip)
                have H' := Aside0.mk H
                clear H
                go_wp2
                go_meet
                case rel => exact ⟨_, (true), (by first | rfl | (simp; done) | (simp [*]; done)), H', ⟨by have := HJ6.out; first | omega | exact Nat.le_refl _⟩, ⟨by (with_reducible repeat (first | apply Kd.R_alloc | apply Kd.R_drewN | apply Kd.R_drew)); exact HO_3.out⟩, ⟨by (with_reducible repeat (first | apply Kd.R_alloc | apply Kd.R_drewN | apply Kd.R_drew)); exact HO_6.out⟩, ⟨by repeat (first | (with_reducible first | exact HB.out | apply below_alloc | apply pw_below_drewN | apply below_drew1) | exact HB.out)⟩⟩
              · rw [if_neg c31] at H
                have c31b0 : decide (t292 < 0) = false := decide_eq_false c31
                clear c31
                (first | rw [c31b0] | (simp only [i64_w, i32_w]; rw [c31b0]) | skip)
                replace H := Option.bind_eq_some_iff.mp H
                obtain ⟨t294, A320, H⟩ := H
                replace H : (if t294 = true then (laws_FnExactUnpackTree.j1 kj6 l0 t276 t277 t283 (t284 != t277)) else (laws_FnExactUnpackTree.j1 kj6 l0 t276 t277 t283 true)) = some r := H
                have A32 := Aside0.mk A320
                clear A320
                by_cases c33 : t294 = true
                · subst c33
                  have H1 : (laws_FnExactUnpackTree.j1 kj6 l0 t276 t277 t283 (t284 != t277)) = some r := by rw [if_pos rfl] at H; exact H
                  clear H
                  have H := H1
                  clear H1
                  have H' := Aside0.mk H
                  clear H
                  obtain ⟨Ao34, co34, eo34⟩ := Kd.R_slice HO_6.out
                  subst eo34
                  obtain ⟨Ao35, co35, eo35⟩ := Kd.R_slice HO_3.out
                  subst eo35
                  go_wp2_with (first | (go_at_call 8; (with_reducible refine (laws_eqEntryS.calls kj6 _ _ t283 _ _ t276 true _ ?side1 ?side2 ?side3 ?side4 A32.out).mono ?_); (case side1 => repeat (first | exact (Kd.R_reads' HO_6.out).2.2 | (with_reducible refine Kd.C_alloc ?_ _) | (with_reducible refine Kd.C_drewN ?_ _) | (with_reducible refine Kd.C_drew ?_))); (case side2 => exact (Kd.R_reads' HO_6.out).2.1); (case side3 => repeat (first | exact (Kd.R_reads' HO_3.out).2.2 | (with_reducible refine Kd.C_alloc ?_ _) | (with_reducible refine Kd.C_drewN ?_ _) | (with_reducible refine Kd.C_drew ?_))); (case side4 => exact (Kd.R_reads' HO_3.out).2.1); rintro e w36 ⟨rfl, hb⟩; have n0_ := Aside0.mk (Kd.R_below (by (with_reducible repeat (first | apply Kd.R_alloc | apply Kd.R_drewN | apply Kd.R_drew)); exact HO_3.out) hb); have n1_ := Aside0.mk (Kd.R_below (by (with_reducible repeat (first | apply Kd.R_alloc | apply Kd.R_drewN | apply Kd.R_drew)); exact HO_5.out) hb); have n2_ := Aside0.mk (Kd.R_below (by (with_reducible repeat (first | apply Kd.R_alloc | apply Kd.R_drewN | apply Kd.R_drew)); exact HO_6.out) hb); have n3_ := Aside0.mk (Kd.R_below (by (with_reducible repeat (first | apply Kd.R_alloc | apply Kd.R_drewN | apply Kd.R_drew)); exact HO290.out) hb); have n4_ := Aside0.mk (below_step (by repeat (first | (with_reducible first | exact HB.out | apply below_alloc | apply pw_below_drewN | apply below_drew1) | exact HB.out)) hb); clear HO_3; clear HO_5; clear HO_6; clear HO290; clear HB; have HO_3 := n0_; have HO_5 := n1_; have HO_6 := n2_; have HO290 := n3_; have HB := n4_; clear n0_ n1_ n2_ n3_ n4_; (try clear hb); (try clear hb2); (try clear hk); (try clear hi)))
                  go_meet
                  case rel => exact ⟨_, ((t284 != t277)), (by first | rfl | (simp; done) | (simp [*]; done)), H', ⟨by have := HJ6.out; first | omega | exact Nat.le_refl _⟩, ⟨by (with_reducible repeat (first | apply Kd.R_alloc | apply Kd.R_drewN | apply Kd.R_drew)); exact HO_3.out⟩, ⟨by (with_reducible repeat (first | apply Kd.R_alloc | apply Kd.R_drewN | apply Kd.R_drew)); exact HO_6.out⟩, ⟨by repeat (first | (with_reducible first | exact HB.out | apply below_alloc | apply pw_below_drewN | apply below_drew1) | exact HB.out)⟩⟩
                · replace c33 := Bool.eq_false_iff.mpr c33
                  subst c33
                  have H1 : (laws_FnExactUnpackTree.j1 kj6 l0 t276 t277 t283 true) = some r := by rw [if_neg (show ¬ (false = true) by decide)] at H; exact H
                  clear H
                  have H := H1
                  clear H1
                  have H' := Aside0.mk H
                  clear H
                  obtain ⟨Ao37, co37, eo37⟩ := Kd.R_slice HO_6.out
                  subst eo37
                  obtain ⟨Ao38, co38, eo38⟩ := Kd.R_slice HO_3.out
                  subst eo38
                  go_wp2_with (first | (go_at_call 8; (with_reducible refine (laws_eqEntryS.calls kj6 _ _ t283 _ _ t276 false _ ?side1 ?side2 ?side3 ?side4 A32.out).mono ?_); (case side1 => repeat (first | exact (Kd.R_reads' HO_6.out).2.2 | (with_reducible refine Kd.C_alloc ?_ _) | (with_reducible refine Kd.C_drewN ?_ _) | (with_reducible refine Kd.C_drew ?_))); (case side2 => exact (Kd.R_reads' HO_6.out).2.1); (case side3 => repeat (first | exact (Kd.R_reads' HO_3.out).2.2 | (with_reducible refine Kd.C_alloc ?_ _) | (with_reducible refine Kd.C_drewN ?_ _) | (with_reducible refine Kd.C_drew ?_))); (case side4 => exact (Kd.R_reads' HO_3.out).2.1); rintro e w39 ⟨rfl, hb⟩; have n0_ := Aside0.mk (Kd.R_below (by (with_reducible repeat (first | apply Kd.R_alloc | apply Kd.R_drewN | apply Kd.R_drew)); exact HO_3.out) hb); have n1_ := Aside0.mk (Kd.R_below (by (with_reducible repeat (first | apply Kd.R_alloc | apply Kd.R_drewN | apply Kd.R_drew)); exact HO_5.out) hb); have n2_ := Aside0.mk (Kd.R_below (by (with_reducible repeat (first | apply Kd.R_alloc | apply Kd.R_drewN | apply Kd.R_drew)); exact HO_6.out) hb); have n3_ := Aside0.mk (Kd.R_below (by (with_reducible repeat (first | apply Kd.R_alloc | apply Kd.R_drewN | apply Kd.R_drew)); exact HO290.out) hb); have n4_ := Aside0.mk (below_step (by repeat (first | (with_reducible first | exact HB.out | apply below_alloc | apply pw_below_drewN | apply below_drew1) | exact HB.out)) hb); clear HO_3; clear HO_5; clear HO_6; clear HO290; clear HB; have HO_3 := n0_; have HO_5 := n1_; have HO_6 := n2_; have HO290 := n3_; have HB := n4_; clear n0_ n1_ n2_ n3_ n4_; (try clear hb); (try clear hb2); (try clear hk); (try clear hi)))
                  go_meet
                  case rel => exact ⟨_, (true), (by first | rfl | (simp; done) | (simp [*]; done)), H', ⟨by have := HJ6.out; first | omega | exact Nat.le_refl _⟩, ⟨by (with_reducible repeat (first | apply Kd.R_alloc | apply Kd.R_drewN | apply Kd.R_drew)); exact HO_3.out⟩, ⟨by (with_reducible repeat (first | apply Kd.R_alloc | apply Kd.R_drewN | apply Kd.R_drew)); exact HO_6.out⟩, ⟨by repeat (first | (with_reducible first | exact HB.out | apply below_alloc | apply pw_below_drewN | apply below_drew1) | exact HB.out)⟩⟩
            case rest =>
              clear HC27
              try clear c1
              try clear c2
              try clear c2b0
              try clear c2b1
              try clear p2
              try clear c3
              try clear c5
              try clear c6
              try clear c7
              try clear c8
              try clear c9
              try clear c10
              try clear c15
              try clear c22
              try clear c25
              try clear c31
              try clear c31b0
              try clear c33
              try clear p2
              obtain ⟨kq, x58_26, rfl, HA, HJ26, HO_3, HO_6, HB⟩ := hcut
              cases kq with
              | zero => exact absurd HA.out (by simp [laws_FnExactUnpackTree.j1])
              | succ kj26 =>
                have H := HA.out
                clear HA
                simp only [laws_FnExactUnpackTree.j1] at H
                by_cases c40 : x58_26 = true
                · subst c40
                  have H1 : (some false) = some r := by rw [if_pos rfl] at H; exact H
                  clear H
                  have H := H1
                  clear H1
                  obtain rfl := Option.some.inj H
                  go_wp2
                  go_ret
                  exact ⟨by first | rfl | (simp [errW_none, errW_some] <;> rfl) | (simp [*, errW_none, errW_some] <;> rfl), by repeat (first | (with_reducible first | exact HB.out | apply below_alloc | apply pw_below_drewN | apply below_drew1) | exact HB.out)⟩
                · replace c40 := Bool.eq_false_iff.mpr c40
                  subst c40
                  have H1 : ((laws_markEntryS.f kj26 t283 1).bind fun bt295 => ((laws_heldEntryS.f kj26 bt295.2 1).bind fun t297 => (if t297 < 0 then (some false) else (if t297 = bt295.1 then ((laws_toByteS.f kj26 l0).bind fun t298 => ((impl_UnpackTree.f kj26 t298).bind fun bt301 => ((laws_eqEntryS.f kj26 bt301.1 t276).bind fun t305 => (if t305 = true then (laws_FnExactUnpackTree.j2 kj26 bt295.2 bt295.1 (bt301.2 != t277)) else (laws_FnExactUnpackTree.j2 kj26 bt295.2 bt295.1 true))))) else (some false))))) = some r := by rw [if_neg (show ¬ (false = true) by decide)] at H; exact H
                  clear H
                  have H := H1
                  clear H1
                  replace H := Option.bind_eq_some_iff.mp H
                  obtain ⟨⟨t295, t296⟩, A410, H⟩ := H
                  replace H : ((laws_heldEntryS.f kj26 t296 1).bind fun t297 => (if t297 < 0 then (some false) else (if t297 = t295 then ((laws_toByteS.f kj26 l0).bind fun t298 => ((impl_UnpackTree.f kj26 t298).bind fun bt301 => ((laws_eqEntryS.f kj26 bt301.1 t276).bind fun t305 => (if t305 = true then (laws_FnExactUnpackTree.j2 kj26 t296 t295 (bt301.2 != t277)) else (laws_FnExactUnpackTree.j2 kj26 t296 t295 true))))) else (some false)))) = some r := H
                  have A41 := Aside0.mk A410
                  clear A410
                  replace H := Option.bind_eq_some_iff.mp H
                  obtain ⟨t297, A420, H⟩ := H
                  replace H : (if t297 < 0 then (some false) else (if t297 = t295 then ((laws_toByteS.f kj26 l0).bind fun t298 => ((impl_UnpackTree.f kj26 t298).bind fun bt301 => ((laws_eqEntryS.f kj26 bt301.1 t276).bind fun t305 => (if t305 = true then (laws_FnExactUnpackTree.j2 kj26 t296 t295 (bt301.2 != t277)) else (laws_FnExactUnpackTree.j2 kj26 t296 t295 true))))) else (some false))) = some r := H
                  have A42 := Aside0.mk A420
                  clear A420
                  by_cases c43 : t297 < 0
                  · rw [if_pos c43] at H
                    have c43b0 : decide (t297 < 0) = true := decide_eq_true c43
                    clear c43
                    obtain rfl := Option.some.inj H
                    obtain ⟨Ao44, co44, eo44⟩ := Kd.R_slice HO_6.out
                    subst eo44
                    go_wp2_with (first | ((with_reducible refine gate_callee (f := 11) rfl ?_); refine goesL_ (some 61) rfl rfl Tryd.func11 (by kernel_rfl) rfl #[.slice Ao44 t283.length co44, .int .i64 1] rfl (by (try simp only [List.map_toArray, List.map_cons, List.map_nil]); first | done | rfl | (simp only [List.length_drop, List.length_take]; rfl)) ?_; (with_reducible refine (laws_markEntryS.calls kj26 (fun k_ => some k_ = (.slice Ao44 t283.length co44 : Value).ownBlock) (.slice Ao44 t283.length co44) t283 1 t295 t296 w _ ?side1 ?side2 A41.out).mono ?_); (case side1 => repeat (first | (with_reducible first | exact HB.out | apply below_alloc | apply pw_below_drewN | apply below_drew1) | exact HB.out)); (case side2 => exact Kd.R_tight rfl HO_6.out); rintro e w45 ⟨rfl, hy0, hb, hkp⟩; refine ⟨_, rfl, ?_⟩; have n0_ := Aside0.mk (Kd.R_mono (ok' := fun k_ => some k_ ≠ (.slice Ao44 t283.length co44 : Value).ownBlock) (Kd.R_keptB (HO_3.out) hkp (fun k_ hk_ hs_ => (hk_) hs_)) (fun k_ hk_ => hk_.1)); have n1_ := Aside0.mk (Kd.R_reok rfl hy0 (fun k_ e_ => HO_6.out.1 k_ e_)); have n2_ := Aside0.mk (hb); clear HO_3; clear HO_6; clear HB; have HO_3 := n0_; have HO_6 := n1_; have HB := n2_; clear n0_ n1_ n2_; (try clear hb); (try clear hkp); (try clear hy0)) | ((with_reducible refine gate_callee (f := 12) rfl ?_); refine goesL_ (some 64) rfl rfl Tryd.func12 (by kernel_rfl) rfl #[.slice Ao44 t296.length co44, .int .i64 1] rfl (by (try simp only [List.map_toArray, List.map_cons, List.map_nil]); first | done | (rw [show t296.length = t283.length from (Kd.R_reads' HO_6.out).1.symm] <;> rfl) | rfl | (simp only [List.length_drop, List.length_take]; rfl)) ?_; (with_reducible refine (laws_heldEntryS.calls kj26 _ _ t296 1 t297 _ ?side1 ?side2 A42.out).mono ?_); (case side1 => repeat (first | exact (Kd.R_reads' HO_6.out).2.2 | (with_reducible refine Kd.C_alloc ?_ _) | (with_reducible refine Kd.C_drewN ?_ _) | (with_reducible refine Kd.C_drew ?_))); (case side2 => rw [show t296.length = t283.length from (Kd.R_reads' HO_6.out).1.symm]; exact (Kd.R_reads' HO_6.out).2.1); rintro e w46 ⟨rfl, hb⟩; refine ⟨_, rfl, ?_⟩; have n0_ := Aside0.mk (Kd.R_below (by (with_reducible repeat (first | apply Kd.R_alloc | apply Kd.R_drewN | apply Kd.R_drew)); exact HO_3.out) hb); have n1_ := Aside0.mk (Kd.R_below (by (with_reducible repeat (first | apply Kd.R_alloc | apply Kd.R_drewN | apply Kd.R_drew)); exact HO_6.out) hb); have n2_ := Aside0.mk (below_step (by repeat (first | (with_reducible first | exact HB.out | apply below_alloc | apply pw_below_drewN | apply below_drew1) | exact HB.out)) hb); clear HO_3; clear HO_6; clear HB; have HO_3 := n0_; have HO_6 := n1_; have HB := n2_; clear n0_ n1_ n2_; (try clear hb); (try clear hb2); (try clear hk); (try clear hi)))
                    go_ret
                    exact ⟨by first | rfl | (simp [errW_none, errW_some] <;> rfl) | (simp [*, errW_none, errW_some] <;> rfl), by repeat (first | (with_reducible first | exact HB.out | apply below_alloc | apply pw_below_drewN | apply below_drew1) | exact HB.out)⟩
                  · rw [if_neg c43] at H
                    have c43b0 : decide (t297 < 0) = false := decide_eq_false c43
                    clear c43
                    by_cases c47 : t297 = t295
                    · rw [if_pos c47] at H
                      have c47b0 : (t297 == t295) = true := beq_iff_eq.mpr c47
                      have c47b1 : (t297 != t295) = false := bne_eq_false_iff_eq.mpr c47
                      clear c47
                      replace H := Option.bind_eq_some_iff.mp H
                      obtain ⟨t298, A480, H⟩ := H
                      replace H : ((impl_UnpackTree.f kj26 t298).bind fun bt301 => ((laws_eqEntryS.f kj26 bt301.1 t276).bind fun t305 => (if t305 = true then (laws_FnExactUnpackTree.j2 kj26 t296 t295 (bt301.2 != t277)) else (laws_FnExactUnpackTree.j2 kj26 t296 t295 true)))) = some r := H
                      have A48 := Aside0.mk A480
                      clear A480
                      replace H := Option.bind_eq_some_iff.mp H
                      obtain ⟨⟨t301, t302⟩, A490, H⟩ := H
                      replace H : ((laws_eqEntryS.f kj26 t301 t276).bind fun t305 => (if t305 = true then (laws_FnExactUnpackTree.j2 kj26 t296 t295 (t302 != t277)) else (laws_FnExactUnpackTree.j2 kj26 t296 t295 true))) = some r := H
                      have A49 := Aside0.mk A490
                      clear A490
                      have HC50 := Aside0.mk H
                      clear H
                      obtain ⟨Ao51, co51, eo51⟩ := Kd.R_slice HO_6.out
                      subst eo51
                      go_upto_region 23 with (first | ((with_reducible refine gate_callee (f := 11) rfl ?_); refine goesL_ (some 61) rfl rfl Tryd.func11 (by kernel_rfl) rfl #[.slice Ao51 t283.length co51, .int .i64 1] rfl (by (try simp only [List.map_toArray, List.map_cons, List.map_nil]); first | done | rfl | (simp only [List.length_drop, List.length_take]; rfl)) ?_; (with_reducible refine (laws_markEntryS.calls kj26 (fun k_ => some k_ = (.slice Ao51 t283.length co51 : Value).ownBlock) (.slice Ao51 t283.length co51) t283 1 t295 t296 w _ ?side1 ?side2 A41.out).mono ?_); (case side1 => repeat (first | (with_reducible first | exact HB.out | apply below_alloc | apply pw_below_drewN | apply below_drew1) | exact HB.out)); (case side2 => exact Kd.R_tight rfl HO_6.out); rintro e w52 ⟨rfl, hy0, hb, hkp⟩; refine ⟨_, rfl, ?_⟩; have n0_ := Aside0.mk (Kd.R_mono (ok' := fun k_ => some k_ ≠ (.slice Ao51 t283.length co51 : Value).ownBlock) (Kd.R_keptB (HO_3.out) hkp (fun k_ hk_ hs_ => (hk_) hs_)) (fun k_ hk_ => hk_.1)); have n1_ := Aside0.mk (Kd.R_reok rfl hy0 (fun k_ e_ => HO_6.out.1 k_ e_)); have n2_ := Aside0.mk (hb); clear HO_3; clear HO_6; clear HB; have HO_3 := n0_; have HO_6 := n1_; have HB := n2_; clear n0_ n1_ n2_; (try clear hb); (try clear hkp); (try clear hy0)) | ((with_reducible refine gate_callee (f := 12) rfl ?_); refine goesL_ (some 64) rfl rfl Tryd.func12 (by kernel_rfl) rfl #[.slice Ao51 t296.length co51, .int .i64 1] rfl (by (try simp only [List.map_toArray, List.map_cons, List.map_nil]); first | done | (rw [show t296.length = t283.length from (Kd.R_reads' HO_6.out).1.symm] <;> rfl) | rfl | (simp only [List.length_drop, List.length_take]; rfl)) ?_; (with_reducible refine (laws_heldEntryS.calls kj26 _ _ t296 1 t297 _ ?side1 ?side2 A42.out).mono ?_); (case side1 => repeat (first | exact (Kd.R_reads' HO_6.out).2.2 | (with_reducible refine Kd.C_alloc ?_ _) | (with_reducible refine Kd.C_drewN ?_ _) | (with_reducible refine Kd.C_drew ?_))); (case side2 => rw [show t296.length = t283.length from (Kd.R_reads' HO_6.out).1.symm]; exact (Kd.R_reads' HO_6.out).2.1); rintro e w53 ⟨rfl, hb⟩; refine ⟨_, rfl, ?_⟩; have n0_ := Aside0.mk (Kd.R_below (by (with_reducible repeat (first | apply Kd.R_alloc | apply Kd.R_drewN | apply Kd.R_drew)); exact HO_3.out) hb); have n1_ := Aside0.mk (Kd.R_below (by (with_reducible repeat (first | apply Kd.R_alloc | apply Kd.R_drewN | apply Kd.R_drew)); exact HO_6.out) hb); have n2_ := Aside0.mk (below_step (by repeat (first | (with_reducible first | exact HB.out | apply below_alloc | apply pw_below_drewN | apply below_drew1) | exact HB.out)) hb); clear HO_3; clear HO_6; clear HB; have HO_3 := n0_; have HO_6 := n1_; have HB := n2_; clear n0_ n1_ n2_; (try clear hb); (try clear hb2); (try clear hk); (try clear hi)) | ((with_reducible refine gate_callee (f := 6) rfl ?_); refine goesL_ (some 72) rfl rfl Tryd.func6 (by kernel_rfl) rfl #[.slice A0 l0.length c0] rfl (by (try simp only [List.map_toArray, List.map_cons, List.map_nil]); first | done | rfl | (simp only [List.length_drop, List.length_take]; rfl)) ?_; (with_reducible refine (laws_toByteS.calls kj26 _ _ l0 t298 _ ?side1 ?side2 A48.out).mono ?_); (case side1 => repeat (first | exact (Kd.C_below HR0.out HB.out) | (with_reducible refine Kd.C_alloc ?_ _) | (with_reducible refine Kd.C_drewN ?_ _) | (with_reducible refine Kd.C_drew ?_))); (case side2 => exact HC0.out); rintro e w54 ⟨v299, rfl, ho0, hb⟩; refine ⟨_, rfl, ?_⟩; have n0_ := Aside0.mk (Kd.R_below (by (with_reducible repeat (first | apply Kd.R_alloc | apply Kd.R_drewN | apply Kd.R_drew)); exact HO_3.out) hb); have n1_ := Aside0.mk (Kd.R_below (by (with_reducible repeat (first | apply Kd.R_alloc | apply Kd.R_drewN | apply Kd.R_drew)); exact HO_6.out) hb); have n2_ := Aside0.mk (Kd.R_lower ho0 (below_size (by repeat (first | (with_reducible first | exact HB.out | apply below_alloc | apply pw_below_drewN | apply below_drew1) | exact HB.out)))); have n3_ := Aside0.mk (below_step (by repeat (first | (with_reducible first | exact HB.out | apply below_alloc | apply pw_below_drewN | apply below_drew1) | exact HB.out)) hb); clear HO_3; clear HO_6; clear HB; have HO_3 := n0_; have HO_6 := n1_; have HO300 := n2_; have HB := n3_; clear n0_ n1_ n2_ n3_; (try clear hb); (try clear hb2); (try clear hk); (try clear hi); (try clear ho0); obtain ⟨Ao55, co55, eo55⟩ := Kd.R_slice HO300.out; subst eo55) | ((with_reducible refine gate_callee (f := 7) rfl ?_); refine goesL_ (some 73) rfl rfl Tryd.func7 (by kernel_rfl) rfl #[.slice Ao55 t298.length co55] rfl (by (try simp only [List.map_toArray, List.map_cons, List.map_nil]); first | done | rfl | (simp only [List.length_drop, List.length_take]; rfl)) ?_; (with_reducible refine (impl_UnpackTree.calls kj26 _ _ t298 t301 t302 _ ?side1 ?side2 ?side3 A49.out).mono ?_); (case side1 => refine EnvW.below HE.out ?_; repeat (first | (with_reducible first | exact HB.out | apply below_alloc | apply pw_below_drewN | apply below_drew1) | exact HB.out)); (case side2 => repeat (first | exact (Kd.R_reads' HO300.out).2.2 | (with_reducible refine Kd.C_alloc ?_ _) | (with_reducible refine Kd.C_drewN ?_ _) | (with_reducible refine Kd.C_drew ?_))); (case side3 => exact (Kd.R_reads' HO300.out).2.1); rintro e w56 ⟨v303, rfl, ho0, hb⟩; refine ⟨_, rfl, ?_⟩; have n0_ := Aside0.mk (Kd.R_elder' (by (with_reducible repeat (first | apply Kd.R_alloc | apply Kd.R_drewN | apply Kd.R_drew)); exact HO_3.out) (Kd.R_base ho0) hb); have n1_ := Aside0.mk (Kd.R_elder' (by (with_reducible repeat (first | apply Kd.R_alloc | apply Kd.R_drewN | apply Kd.R_drew)); exact HO_6.out) (Kd.R_base ho0) hb); have n2_ := Aside0.mk (Kd.R_below (by (with_reducible repeat (first | apply Kd.R_alloc | apply Kd.R_drewN | apply Kd.R_drew)); exact HO300.out) hb); have n3_ := Aside0.mk (Kd.R_lower (Kd.R_new' (Kd.R_new' ho0 (Kd.R_lt (by (with_reducible repeat (first | apply Kd.R_alloc | apply Kd.R_drewN | apply Kd.R_drew)); exact HO_3.out))) (Kd.R_lt (by (with_reducible repeat (first | apply Kd.R_alloc | apply Kd.R_drewN | apply Kd.R_drew)); exact HO_6.out))) (below_size (by repeat (first | (with_reducible first | exact HB.out | apply below_alloc | apply pw_below_drewN | apply below_drew1) | exact HB.out)))); have n4_ := Aside0.mk (below_step (by repeat (first | (with_reducible first | exact HB.out | apply below_alloc | apply pw_below_drewN | apply below_drew1) | exact HB.out)) hb); clear HO_3; clear HO_6; clear HO300; clear HB; have HO_3 := n0_; have HO_6 := n1_; have HO300 := n2_; have HO304 := n3_; have HB := n4_; clear n0_ n1_ n2_ n3_ n4_; (try clear hb); (try clear hb2); (try clear hk); (try clear hi); (try clear ho0)))
                      (try simp only [Act.put, List.setIfInBounds_toArray, List.set_cons_zero, List.set_cons_succ])
                      go_cut [84] (fun v84 wc => ∃ (kq : Nat) (x84_49 : Bool), v84 = .bool x84_49 ∧ Aside0 (laws_FnExactUnpackTree.j2 kq t296 t295 x84_49 = some r) ∧ Aside0 (kq ≤ kj26) ∧ Aside0 (Kd.R k34 34 wc w.heap.size (fun _ => True) (.slice Ao51 t283.length co51) t296) ∧ Aside0 (Below w.heap.size w wc))
                      case first =>
                        have H := HC50.out
                        clear HC50
                        replace H := Option.bind_eq_some_iff.mp H
                        obtain ⟨t305, A570, H⟩ := H
                        replace H : (if t305 = true then (laws_FnExactUnpackTree.j2 kj26 t296 t295 (t302 != t277)) else (laws_FnExactUnpackTree.j2 kj26 t296 t295 true)) = some r := H
                        have A57 := Aside0.mk A570
                        clear A570
                        by_cases c58 : t305 = true
                        · subst c58
                          have H1 : (laws_FnExactUnpackTree.j2 kj26 t296 t295 (t302 != t277)) = some r := by rw [if_pos rfl] at H; exact H
                          clear H
                          have H := H1
                          clear H1
                          have H' := Aside0.mk H
                          clear H
                          obtain ⟨Ao59, co59, eo59⟩ := Kd.R_slice HO304.out
                          subst eo59
                          obtain ⟨Ao60, co60, eo60⟩ := Kd.R_slice HO_3.out
                          subst eo60
                          go_wp2_with (first | ((with_reducible refine gate_callee (f := 8) rfl ?_); refine goesL_ (some 78) rfl rfl Tryd.func8 (by kernel_rfl) rfl #[.slice Ao59 t301.length co59, .slice Ao60 t276.length co60] rfl (by (try simp only [List.map_toArray, List.map_cons, List.map_nil]); first | done | rfl | (simp only [List.length_drop, List.length_take]; rfl)) ?_; (with_reducible refine (laws_eqEntryS.calls kj26 _ _ t301 _ _ t276 true _ ?side1 ?side2 ?side3 ?side4 A57.out).mono ?_); (case side1 => repeat (first | exact (Kd.R_reads' HO304.out).2.2 | (with_reducible refine Kd.C_alloc ?_ _) | (with_reducible refine Kd.C_drewN ?_ _) | (with_reducible refine Kd.C_drew ?_))); (case side2 => exact (Kd.R_reads' HO304.out).2.1); (case side3 => repeat (first | exact (Kd.R_reads' HO_3.out).2.2 | (with_reducible refine Kd.C_alloc ?_ _) | (with_reducible refine Kd.C_drewN ?_ _) | (with_reducible refine Kd.C_drew ?_))); (case side4 => exact (Kd.R_reads' HO_3.out).2.1); rintro e w61 ⟨rfl, hb⟩; refine ⟨_, rfl, ?_⟩; have n0_ := Aside0.mk (Kd.R_below (by (with_reducible repeat (first | apply Kd.R_alloc | apply Kd.R_drewN | apply Kd.R_drew)); exact HO_3.out) hb); have n1_ := Aside0.mk (Kd.R_below (by (with_reducible repeat (first | apply Kd.R_alloc | apply Kd.R_drewN | apply Kd.R_drew)); exact HO_6.out) hb); have n2_ := Aside0.mk (Kd.R_below (by (with_reducible repeat (first | apply Kd.R_alloc | apply Kd.R_drewN | apply Kd.R_drew)); exact HO300.out) hb); have n3_ := Aside0.mk (Kd.R_below (by (with_reducible repeat (first | apply Kd.R_alloc | apply Kd.R_drewN | apply Kd.R_drew)); exact HO304.out) hb); have n4_ := Aside0.mk (below_step (by repeat (first | (with_reducible first | exact HB.out | apply below_alloc | apply pw_below_drewN | apply below_drew1) | exact HB.out)) hb); clear HO_3; clear HO_6; clear HO300; clear HO304; clear HB; have HO_3 := n0_; have HO_6 := n1_; have HO300 := n2_; have HO304 := n3_; have HB := n4_; clear n0_ n1_ n2_ n3_ n4_; (try clear hb); (try clear hb2); (try clear hk); (try clear hi)))
                          go_meet
                          case rel => exact ⟨_, ((t302 != t277)), (by first | rfl | (simp; done) | (simp [*]; done)), H', ⟨by have := HJ6.out; have := HJ26.out; first | omega | exact Nat.le_refl _⟩, ⟨by (with_reducible repeat (first | apply Kd.R_alloc | apply Kd.R_drewN | apply Kd.R_drew)); exact Kd.R_mono HO_6.out (fun _ hk => trivial)⟩, ⟨by repeat (first | (with_reducible first | exact HB.out | apply below_alloc | apply pw_below_drewN | apply below_drew1) | exact HB.out)⟩⟩
                        · replace c58 := Bool.eq_false_iff.mpr c58
                          subst c58
                          have H1 : (laws_FnExactUnpackTree.j2 kj26 t296 t295 true) = some r := by rw [if_neg (show ¬ (false = true) by decide)] at H; exact H
                          clear H
                          have H := H1
                          clear H1
                          have H' := Aside0.mk H
                          clear H
                          obtain ⟨Ao62, co62, eo62⟩ := Kd.R_slice HO304.out
                          subst eo62
                          obtain ⟨Ao63, co63, eo63⟩ := Kd.R_slice HO_3.out
                          subst eo63
                          go_wp2_with (first | ((with_reducible refine gate_callee (f := 8) rfl ?_); refine goesL_ (some 78) rfl rfl Tryd.func8 (by kernel_rfl) rfl #[.slice Ao62 t301.length co62, .slice Ao63 t276.length co63] rfl (by (try simp only [List.map_toArray, List.map_cons, List.map_nil]); first | done | rfl | (simp only [List.length_drop, List.length_take]; rfl)) ?_; (with_reducible refine (laws_eqEntryS.calls kj26 _ _ t301 _ _ t276 false _ ?side1 ?side2 ?side3 ?side4 A57.out).mono ?_); (case side1 => repeat (first | exact (Kd.R_reads' HO304.out).2.2 | (with_reducible refine Kd.C_alloc ?_ _) | (with_reducible refine Kd.C_drewN ?_ _) | (with_reducible refine Kd.C_drew ?_))); (case side2 => exact (Kd.R_reads' HO304.out).2.1); (case side3 => repeat (first | exact (Kd.R_reads' HO_3.out).2.2 | (with_reducible refine Kd.C_alloc ?_ _) | (with_reducible refine Kd.C_drewN ?_ _) | (with_reducible refine Kd.C_drew ?_))); (case side4 => exact (Kd.R_reads' HO_3.out).2.1); rintro e w64 ⟨rfl, hb⟩; refine ⟨_, rfl, ?_⟩; have n0_ := Aside0.mk (Kd.R_below (by (with_reducible repeat (first | apply Kd.R_alloc | apply Kd.R_drewN | apply Kd.R_drew)); exact HO_3.out) hb); have n1_ := Aside0.mk (Kd.R_below (by (with_reducible repeat (first | apply Kd.R_alloc | apply Kd.R_drewN | apply Kd.R_drew)); exact HO_6.out) hb); have n2_ := Aside0.mk (Kd.R_below (by (with_reducible repeat (first | apply Kd.R_alloc | apply Kd.R_drewN | apply Kd.R_drew)); exact HO300.out) hb); have n3_ := Aside0.mk (Kd.R_below (by (with_reducible repeat (first | apply Kd.R_alloc | apply Kd.R_drewN | apply Kd.R_drew)); exact HO304.out) hb); have n4_ := Aside0.mk (below_step (by repeat (first | (with_reducible first | exact HB.out | apply below_alloc | apply pw_below_drewN | apply below_drew1) | exact HB.out)) hb); clear HO_3; clear HO_6; clear HO300; clear HO304; clear HB; have HO_3 := n0_; have HO_6 := n1_; have HO300 := n2_; have HO304 := n3_; have HB := n4_; clear n0_ n1_ n2_ n3_ n4_; (try clear hb); (try clear hb2); (try clear hk); (try clear hi)))
                          go_meet
                          case rel => exact ⟨_, (true), (by first | rfl | (simp; done) | (simp [*]; done)), H', ⟨by have := HJ6.out; have := HJ26.out; first | omega | exact Nat.le_refl _⟩, ⟨by (with_reducible repeat (first | apply Kd.R_alloc | apply Kd.R_drewN | apply Kd.R_drew)); exact Kd.R_mono HO_6.out (fun _ hk => trivial)⟩, ⟨by repeat (first | (with_reducible first | exact HB.out | apply below_alloc | apply pw_below_drewN | apply below_drew1) | exact HB.out)⟩⟩
                      case rest =>
                        clear HC50
                        try clear c1
                        try clear c2
                        try clear c2b0
                        try clear c2b1
                        try clear p2
                        try clear c3
                        try clear c4
                        try clear c5
                        try clear c6
                        try clear c7
                        try clear c8
                        try clear c9
                        try clear c10
                        try clear c11
                        try clear c12
                        try clear c15
                        try clear c22
                        try clear c25
                        try clear c31
                        try clear c31b0
                        try clear c33
                        try clear c40
                        try clear c43
                        try clear c43b0
                        try clear c47
                        try clear c47b0
                        try clear c47b1
                        try clear c58
                        try clear p2
                        obtain ⟨kq, x84_49, rfl, HA, HJ49, HO_6, HB⟩ := hcut
                        have hl6_49 := (Kd.R_reads' HO_6.out).1
                        rw [hl6_49] at HO_6
                        (try simp only [hl6_49])
                        cases kq with
                        | zero => exact absurd HA.out (by simp [laws_FnExactUnpackTree.j2])
                        | succ kj49 =>
                          have H := HA.out
                          clear HA
                          simp only [laws_FnExactUnpackTree.j2] at H
                          by_cases c65 : x84_49 = true
                          · subst c65
                            have H1 : (some false) = some r := by rw [if_pos rfl] at H; exact H
                            clear H
                            have H := H1
                            clear H1
                            obtain rfl := Option.some.inj H
                            go_wp2
                            go_ret
                            exact ⟨by first | rfl | (simp [errW_none, errW_some] <;> rfl) | (simp [*, errW_none, errW_some] <;> rfl), by repeat (first | (with_reducible first | exact HB.out | apply below_alloc | apply pw_below_drewN | apply below_drew1) | exact HB.out)⟩
                          · replace c65 := Bool.eq_false_iff.mpr c65
                            subst c65
                            have H1 : ((laws_heldEntryS.f kj49 t296 1).bind fun t306 => (if t306 < 0 then (some false) else (if t306 = t295 then (some true) else (some false)))) = some r := by rw [if_neg (show ¬ (false = true) by decide)] at H; exact H
                            clear H
                            have H := H1
                            clear H1
                            replace H := Option.bind_eq_some_iff.mp H
                            obtain ⟨t306, A660, H⟩ := H
                            replace H : (if t306 < 0 then (some false) else (if t306 = t295 then (some true) else (some false))) = some r := H
                            have A66 := Aside0.mk A660
                            clear A660
                            by_cases c67 : t306 < 0
                            · rw [if_pos c67] at H
                              have c67b0 : decide (t306 < 0) = true := decide_eq_true c67
                              clear c67
                              obtain rfl := Option.some.inj H
                              go_wp2_with (first | ((with_reducible refine gate_callee (f := 12) rfl ?_); refine goesL_ (some 87) rfl rfl Tryd.func12 (by kernel_rfl) rfl #[.slice Ao51 t296.length co51, .int .i64 1] rfl (by (try simp only [List.map_toArray, List.map_cons, List.map_nil]); first | done | rfl | (simp only [List.length_drop, List.length_take]; rfl)) ?_; (with_reducible refine (laws_heldEntryS.calls kj49 _ _ t296 1 t306 _ ?side1 ?side2 A66.out).mono ?_); (case side1 => repeat (first | exact (Kd.R_reads' HO_6.out).2.2 | (with_reducible refine Kd.C_alloc ?_ _) | (with_reducible refine Kd.C_drewN ?_ _) | (with_reducible refine Kd.C_drew ?_))); (case side2 => exact (Kd.R_reads' HO_6.out).2.1); rintro e w68 ⟨rfl, hb⟩; refine ⟨_, rfl, ?_⟩; have n0_ := Aside0.mk (Kd.R_below (by (with_reducible repeat (first | apply Kd.R_alloc | apply Kd.R_drewN | apply Kd.R_drew)); exact HO_6.out) hb); have n1_ := Aside0.mk (below_step (by repeat (first | (with_reducible first | exact HB.out | apply below_alloc | apply pw_below_drewN | apply below_drew1) | exact HB.out)) hb); clear HO_6; clear HB; have HO_6 := n0_; have HB := n1_; clear n0_ n1_; (try clear hb); (try clear hb2); (try clear hk); (try clear hi)))
                              go_ret
                              exact ⟨by first | rfl | (simp [errW_none, errW_some] <;> rfl) | (simp [*, errW_none, errW_some] <;> rfl), by repeat (first | (with_reducible first | exact HB.out | apply below_alloc | apply pw_below_drewN | apply below_drew1) | exact HB.out)⟩
                            · rw [if_neg c67] at H
                              have c67b0 : decide (t306 < 0) = false := decide_eq_false c67
                              clear c67
                              by_cases c69 : t306 = t295
                              · rw [if_pos c69] at H
                                have c69b0 : (t306 == t295) = true := beq_iff_eq.mpr c69
                                have c69b1 : (t306 != t295) = false := bne_eq_false_iff_eq.mpr c69
                                clear c69
                                obtain rfl := Option.some.inj H
                                go_wp2_with (first | ((with_reducible refine gate_callee (f := 12) rfl ?_); refine goesL_ (some 87) rfl rfl Tryd.func12 (by kernel_rfl) rfl #[.slice Ao51 t296.length co51, .int .i64 1] rfl (by (try simp only [List.map_toArray, List.map_cons, List.map_nil]); first | done | rfl | (simp only [List.length_drop, List.length_take]; rfl)) ?_; (with_reducible refine (laws_heldEntryS.calls kj49 _ _ t296 1 t306 _ ?side1 ?side2 A66.out).mono ?_); (case side1 => repeat (first | exact (Kd.R_reads' HO_6.out).2.2 | (with_reducible refine Kd.C_alloc ?_ _) | (with_reducible refine Kd.C_drewN ?_ _) | (with_reducible refine Kd.C_drew ?_))); (case side2 => exact (Kd.R_reads' HO_6.out).2.1); rintro e w70 ⟨rfl, hb⟩; refine ⟨_, rfl, ?_⟩; have n0_ := Aside0.mk (Kd.R_below (by (with_reducible repeat (first | apply Kd.R_alloc | apply Kd.R_drewN | apply Kd.R_drew)); exact HO_6.out) hb); have n1_ := Aside0.mk (below_step (by repeat (first | (with_reducible first | exact HB.out | apply below_alloc | apply pw_below_drewN | apply below_drew1) | exact HB.out)) hb); clear HO_6; clear HB; have HO_6 := n0_; have HB := n1_; clear n0_ n1_; (try clear hb); (try clear hb2); (try clear hk); (try clear hi)))
                                go_ret
                                exact ⟨by first | rfl | (simp [errW_none, errW_some] <;> rfl) | (simp [*, errW_none, errW_some] <;> rfl), by repeat (first | (with_reducible first | exact HB.out | apply below_alloc | apply pw_below_drewN | apply below_drew1) | exact HB.out)⟩
                              · rw [if_neg c69] at H
                                have c69b0 : (t306 == t295) = false := beq_eq_false_iff_ne.mpr c69
                                have c69b1 : (t306 != t295) = true := bne_iff_ne.mpr c69
                                obtain rfl := Option.some.inj H
                                go_wp2_with (first | ((with_reducible refine gate_callee (f := 12) rfl ?_); refine goesL_ (some 87) rfl rfl Tryd.func12 (by kernel_rfl) rfl #[.slice Ao51 t296.length co51, .int .i64 1] rfl (by (try simp only [List.map_toArray, List.map_cons, List.map_nil]); first | done | rfl | (simp only [List.length_drop, List.length_take]; rfl)) ?_; (with_reducible refine (laws_heldEntryS.calls kj49 _ _ t296 1 t306 _ ?side1 ?side2 A66.out).mono ?_); (case side1 => repeat (first | exact (Kd.R_reads' HO_6.out).2.2 | (with_reducible refine Kd.C_alloc ?_ _) | (with_reducible refine Kd.C_drewN ?_ _) | (with_reducible refine Kd.C_drew ?_))); (case side2 => exact (Kd.R_reads' HO_6.out).2.1); rintro e w71 ⟨rfl, hb⟩; refine ⟨_, rfl, ?_⟩; have n0_ := Aside0.mk (Kd.R_below (by (with_reducible repeat (first | apply Kd.R_alloc | apply Kd.R_drewN | apply Kd.R_drew)); exact HO_6.out) hb); have n1_ := Aside0.mk (below_step (by repeat (first | (with_reducible first | exact HB.out | apply below_alloc | apply pw_below_drewN | apply below_drew1) | exact HB.out)) hb); clear HO_6; clear HB; have HO_6 := n0_; have HB := n1_; clear n0_ n1_; (try clear hb); (try clear hb2); (try clear hk); (try clear hi)))
                                go_ret
                                exact ⟨by first | rfl | (simp [errW_none, errW_some] <;> rfl) | (simp [*, errW_none, errW_some] <;> rfl), by repeat (first | (with_reducible first | exact HB.out | apply below_alloc | apply pw_below_drewN | apply below_drew1) | exact HB.out)⟩
                    · rw [if_neg c47] at H
                      have c47b0 : (t297 == t295) = false := beq_eq_false_iff_ne.mpr c47
                      have c47b1 : (t297 != t295) = true := bne_iff_ne.mpr c47
                      obtain rfl := Option.some.inj H
                      obtain ⟨Ao72, co72, eo72⟩ := Kd.R_slice HO_6.out
                      subst eo72
                      go_wp2_with (first | ((with_reducible refine gate_callee (f := 11) rfl ?_); refine goesL_ (some 61) rfl rfl Tryd.func11 (by kernel_rfl) rfl #[.slice Ao72 t283.length co72, .int .i64 1] rfl (by (try simp only [List.map_toArray, List.map_cons, List.map_nil]); first | done | rfl | (simp only [List.length_drop, List.length_take]; rfl)) ?_; (with_reducible refine (laws_markEntryS.calls kj26 (fun k_ => some k_ = (.slice Ao72 t283.length co72 : Value).ownBlock) (.slice Ao72 t283.length co72) t283 1 t295 t296 w _ ?side1 ?side2 A41.out).mono ?_); (case side1 => repeat (first | (with_reducible first | exact HB.out | apply below_alloc | apply pw_below_drewN | apply below_drew1) | exact HB.out)); (case side2 => exact Kd.R_tight rfl HO_6.out); rintro e w73 ⟨rfl, hy0, hb, hkp⟩; refine ⟨_, rfl, ?_⟩; have n0_ := Aside0.mk (Kd.R_mono (ok' := fun k_ => some k_ ≠ (.slice Ao72 t283.length co72 : Value).ownBlock) (Kd.R_keptB (HO_3.out) hkp (fun k_ hk_ hs_ => (hk_) hs_)) (fun k_ hk_ => hk_.1)); have n1_ := Aside0.mk (Kd.R_reok rfl hy0 (fun k_ e_ => HO_6.out.1 k_ e_)); have n2_ := Aside0.mk (hb); clear HO_3; clear HO_6; clear HB; have HO_3 := n0_; have HO_6 := n1_; have HB := n2_; clear n0_ n1_ n2_; (try clear hb); (try clear hkp); (try clear hy0)) | ((with_reducible refine gate_callee (f := 12) rfl ?_); refine goesL_ (some 64) rfl rfl Tryd.func12 (by kernel_rfl) rfl #[.slice Ao72 t296.length co72, .int .i64 1] rfl (by (try simp only [List.map_toArray, List.map_cons, List.map_nil]); first | done | (rw [show t296.length = t283.length from (Kd.R_reads' HO_6.out).1.symm] <;> rfl) | rfl | (simp only [List.length_drop, List.length_take]; rfl)) ?_; (with_reducible refine (laws_heldEntryS.calls kj26 _ _ t296 1 t297 _ ?side1 ?side2 A42.out).mono ?_); (case side1 => repeat (first | exact (Kd.R_reads' HO_6.out).2.2 | (with_reducible refine Kd.C_alloc ?_ _) | (with_reducible refine Kd.C_drewN ?_ _) | (with_reducible refine Kd.C_drew ?_))); (case side2 => rw [show t296.length = t283.length from (Kd.R_reads' HO_6.out).1.symm]; exact (Kd.R_reads' HO_6.out).2.1); rintro e w74 ⟨rfl, hb⟩; refine ⟨_, rfl, ?_⟩; have n0_ := Aside0.mk (Kd.R_below (by (with_reducible repeat (first | apply Kd.R_alloc | apply Kd.R_drewN | apply Kd.R_drew)); exact HO_3.out) hb); have n1_ := Aside0.mk (Kd.R_below (by (with_reducible repeat (first | apply Kd.R_alloc | apply Kd.R_drewN | apply Kd.R_drew)); exact HO_6.out) hb); have n2_ := Aside0.mk (below_step (by repeat (first | (with_reducible first | exact HB.out | apply below_alloc | apply pw_below_drewN | apply below_drew1) | exact HB.out)) hb); clear HO_3; clear HO_6; clear HB; have HO_3 := n0_; have HO_6 := n1_; have HB := n2_; clear n0_ n1_ n2_; (try clear hb); (try clear hb2); (try clear hk); (try clear hi)))
                      go_ret
                      exact ⟨by first | rfl | (simp [errW_none, errW_some] <;> rfl) | (simp [*, errW_none, errW_some] <;> rfl), by repeat (first | (with_reducible first | exact HB.out | apply below_alloc | apply pw_below_drewN | apply below_drew1) | exact HB.out)⟩
          · replace c25 := Bool.eq_false_iff.mpr c25
            subst c25
            have H1 : (some false) = some r := by rw [if_neg (show ¬ (false = true) by decide)] at H; exact H
            clear H
            have H := H1
            clear H1
            obtain rfl := Option.some.inj H
            go_wp2_with (first | ((with_reducible refine gate_callee (f := 6) rfl ?_); refine goesL_ (some 40) rfl rfl Tryd.func6 (by kernel_rfl) rfl #[.slice A0 l0.length c0] rfl (by (try simp only [List.map_toArray, List.map_cons, List.map_nil]); first | done | rfl | (simp only [List.length_drop, List.length_take]; rfl)) ?_; (with_reducible refine (laws_toByteS.calls kj6 _ _ l0 t288 _ ?side1 ?side2 A23.out).mono ?_); (case side1 => repeat (first | exact (Kd.C_below HR0.out HB.out) | (with_reducible refine Kd.C_alloc ?_ _) | (with_reducible refine Kd.C_drewN ?_ _) | (with_reducible refine Kd.C_drew ?_))); (case side2 => exact HC0.out); rintro e w75 ⟨v289, rfl, ho0, hb⟩; refine ⟨_, rfl, ?_⟩; have n0_ := Aside0.mk (Kd.R_below (by (with_reducible repeat (first | apply Kd.R_alloc | apply Kd.R_drewN | apply Kd.R_drew)); exact HO_3.out) hb); have n1_ := Aside0.mk (Kd.R_elder' (by (with_reducible repeat (first | apply Kd.R_alloc | apply Kd.R_drewN | apply Kd.R_drew)); exact HO_5.out) (Kd.R_base ho0) hb); have n2_ := Aside0.mk (Kd.R_below (by (with_reducible repeat (first | apply Kd.R_alloc | apply Kd.R_drewN | apply Kd.R_drew)); exact HO_6.out) hb); have n3_ := Aside0.mk (Kd.R_lower (Kd.R_new' ho0 (Kd.R_lt (by (with_reducible repeat (first | apply Kd.R_alloc | apply Kd.R_drewN | apply Kd.R_drew)); exact HO_5.out))) (below_size (by repeat (first | (with_reducible first | exact HB.out | apply below_alloc | apply pw_below_drewN | apply below_drew1) | exact HB.out)))); have n4_ := Aside0.mk (below_step (by repeat (first | (with_reducible first | exact HB.out | apply below_alloc | apply pw_below_drewN | apply below_drew1) | exact HB.out)) hb); clear HO_3; clear HO_5; clear HO_6; clear HB; have HO_3 := n0_; have HO_5 := n1_; have HO_6 := n2_; have HO290 := n3_; have HB := n4_; clear n0_ n1_ n2_ n3_ n4_; (try clear hb); (try clear hb2); (try clear hk); (try clear hi); (try clear ho0); obtain ⟨Ao76, co76, eo76⟩ := Kd.R_slice HO290.out; subst eo76) | ((with_reducible refine gate_callee (f := 9) rfl ?_); refine goesL_ (some 41) rfl rfl Tryd.func9 (by kernel_rfl) rfl #[.slice Ao12 t280.length co12, .slice Ao76 t288.length co76] rfl (by (try simp only [List.map_toArray, List.map_cons, List.map_nil]); first | done | rfl | (simp only [List.length_drop, List.length_take]; rfl)) ?_; (with_reducible refine (laws_eqByteS.calls kj6 _ _ t280 _ _ t288 false _ ?side1 ?side2 ?side3 ?side4 A24.out).mono ?_); (case side1 => repeat (first | exact (Kd.R_reads' HO_5.out).2.2 | (with_reducible refine Kd.C_alloc ?_ _) | (with_reducible refine Kd.C_drewN ?_ _) | (with_reducible refine Kd.C_drew ?_))); (case side2 => exact (Kd.R_reads' HO_5.out).2.1); (case side3 => repeat (first | exact (Kd.R_reads' HO290.out).2.2 | (with_reducible refine Kd.C_alloc ?_ _) | (with_reducible refine Kd.C_drewN ?_ _) | (with_reducible refine Kd.C_drew ?_))); (case side4 => exact (Kd.R_reads' HO290.out).2.1); rintro e w' ⟨rfl, ⟨nd, rfl⟩⟩; refine ⟨_, rfl, ?_⟩))
            go_ret
            exact ⟨by first | rfl | (simp [errW_none, errW_some] <;> rfl) | (simp [*, errW_none, errW_some] <;> rfl), by repeat (first | (with_reducible first | exact HB.out | apply below_alloc | apply pw_below_drewN | apply below_drew1) | exact HB.out)⟩
end Go.Proofs.YthaaboajbnkabaaDoor.P
end
