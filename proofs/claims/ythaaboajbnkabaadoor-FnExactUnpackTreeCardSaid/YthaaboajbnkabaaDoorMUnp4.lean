/- Texts of Unp, put together by program. -/
import Derived.Test.YthaaboajbnkabaaDoorMUnp3

section
namespace Go.Proofs.YthaaboajbnkabaaDoor.P
open Go.RowKit Go.Proofs.YthaaboajbnkabaaDoorW.PrintWords Go.Proofs.YthaaboajbnkabaaDoorW.PrintLast Go.Proofs.YthaaboajbnkabaaDoorW.PrintMore Go.Proofs.YthaaboajbnkabaaDoorM
attribute [local go_sem] max2_int min2_int max_two min_two max_three min_three max_four min_four   -- for this text's walks alone
set_option linter.unusedVariables false
set_option linter.unusedSimpArgs false
mutual
def impl_TreeOk.l0 : Nat → List (S34) → List (ByteArray × Int) → List (S34) → Int → Int → Option (Bool)
  | 0, _, _, _, _, _ => none
  | k + 1, x0, x3, x14, x15, x16 => if x16 < x15 then (if 0 ≤ x16 then (if x16 < (x14.length : Int) then ((impl_pathOk.f k ((rd_T34 x14 x16).f0)).bind fun t198 => (if t198 = true then (if x16 > 0 then (if 0 ≤ (wrap64 (x16 - 1)) then (if (wrap64 (x16 - 1)) < (x0.length : Int) then (if ((Op.bytesLess (((rd_T34 x0 (wrap64 (x16 - 1))).f0).toList) (((rd_T34 x14 x16).f0).toList)) = true) then (if (rd_T34 x14 x16).f3 = true then (impl_TreeOk.j1 k x0 x3 x14 x15 x16 (((rd_T34 x14 x16).f1) != 2) ((rd_T34 x14 x16).f0) ((rd_T34 x14 x16).f1) ((rd_T34 x14 x16).f2) ((rd_T34 x14 x16).f3)) else (impl_TreeOk.j1 k x0 x3 x14 x15 x16 false ((rd_T34 x14 x16).f0) ((rd_T34 x14 x16).f1) ((rd_T34 x14 x16).f2) ((rd_T34 x14 x16).f3))) else (impl_TreeOk.j1 k x0 x3 x14 x15 x16 true ((rd_T34 x14 x16).f0) ((rd_T34 x14 x16).f1) ((rd_T34 x14 x16).f2) ((rd_T34 x14 x16).f3))) else (none)) else (none)) else (if (rd_T34 x14 x16).f3 = true then (impl_TreeOk.j1 k x0 x3 x14 x15 x16 (((rd_T34 x14 x16).f1) != 2) ((rd_T34 x14 x16).f0) ((rd_T34 x14 x16).f1) ((rd_T34 x14 x16).f2) ((rd_T34 x14 x16).f3)) else (impl_TreeOk.j1 k x0 x3 x14 x15 x16 false ((rd_T34 x14 x16).f0) ((rd_T34 x14 x16).f1) ((rd_T34 x14 x16).f2) ((rd_T34 x14 x16).f3)))) else (impl_TreeOk.j1 k x0 x3 x14 x15 x16 true ((rd_T34 x14 x16).f0) ((rd_T34 x14 x16).f1) ((rd_T34 x14 x16).f2) ((rd_T34 x14 x16).f3)))) else (none)) else (none)) else (impl_TreeOk.l1 k x3 x0 (x0.length : Int) 0)
def impl_TreeOk.j1 : Nat → List (S34) → List (ByteArray × Int) → List (S34) → Int → Int → Bool → ByteArray → Int → ByteArray → Bool → Option (Bool)
  | 0, _, _, _, _, _, _, _, _, _, _ => none
  | k + 1, x0, x3, x14, x15, x16, x48, x198000, x198001, x198002, x198003 => if x48 = true then (some false) else (if x198001 = 1 then (if x198002.toList = ([] : List UInt8) then (if x3.length < 1099511627776 then (if x198000.size ≤ 9223372036854775807 then (impl_TreeOk.l0 k x0 (x3 ++ [(x198000, 1)]) x14 x15 (wrap64 (x16 + 1))) else (none)) else (none)) else (some false)) else (if x198001 = 2 then (if (x198002.size : Int) > 20000 then (some false) else (impl_TreeOk.l0 k x0 x3 x14 x15 (wrap64 (x16 + 1)))) else (if x198001 = 3 then (if (x198002.size : Int) < 1 then (some false) else (if (x198002.size : Int) > 20000 then (some false) else (impl_TreeOk.l0 k x0 x3 x14 x15 (wrap64 (x16 + 1))))) else (some false))))
def impl_TreeOk.l1 : Nat → List (ByteArray × Int) → List (S34) → Int → Int → Option (Bool)
  | 0, _, _, _, _ => none
  | k + 1, x3, x78, x79, x80 => if x80 < x79 then (if 0 ≤ x80 then (if x80 < (x78.length : Int) then ((impl_upper.f ((rd_T34 x78 x80).f0)).bind fun bt203 => (if bt203.2 = true then (if bt203.1.size ≤ 9223372036854775807 then (if (mgetD 0 x3 bt203.1) = 0 then (some false) else (impl_TreeOk.l1 k x3 x78 x79 (wrap64 (x80 + 1)))) else (none)) else (impl_TreeOk.l1 k x3 x78 x79 (wrap64 (x80 + 1))))) else (none)) else (none)) else (some true)
end
def impl_TreeOk.f (k : Nat) (l0 : List (S34)) : Option (Bool) := if (l0.length : Int) > 500 then (some false) else (impl_TreeOk.l0 k l0 (([] : List (ByteArray × Int))) l0 (l0.length : Int) 0)
def impl_TreeOk.T7 : Bool × List (List Nat × List Nat) := (true, [([], []), ([0], [0]), ([1], [1]), ([2], [2]), ([3, 2], [3]), ([4], [4]), ([5, 4], [4, 5]), ([6, 4, 4], [4, 6]), ([7], [7]), ([8, 7], [7, 8]), ([7], [7]), ([7], [7]), ([11, 7], [7, 11]), ([10, 12, 7], [7, 10, 12]), ([13, 7], [7, 13]), ([14, 7], [7, 14]), ([9, 15, 7], [7, 9, 15]), ([7, 16, 4], [4, 7, 16]), ([4, 17], [4, 17]), ([18, 7], [18]), ([19], [19]), ([20, 19], [19, 20]), ([21, 19, 19], [19, 21]), ([22], [22]), ([23, 22], [22, 23]), ([24, 22], [22, 24]), ([22, 25, 19], [19, 22, 25]), ([19, 26], [19, 26])])
def impl_TreeOk.B7 : List Nat := [0, 1, 3, 7, 15, 31, 63, 127, 255, 511, 255, 255, 2303, 7423, 15615, 31999, 65535, 131071, 262143, 524287, 1048575, 2097151, 4194303, 8388607, 16777215, 33554431, 67108863, 134217727]
theorem impl_TreeOk.tab7 : rtab .any (opsOf Tryd.f33 7) = impl_TreeOk.T7 := by kernel_rfl
theorem impl_TreeOk.bits7 : waitsOk impl_TreeOk.T7.2 impl_TreeOk.B7 = true := by kernel_rfl
set_option maxHeartbeats 8000000 in
set_option maxRecDepth 100000 in
theorem impl_TreeOk.calls (k : Nat) (A0 : Option Addr) (c0 : Nat) (l0 : List (S34)) (r : Bool) (w : World) (hE : EnvW w) (hr0 : Kd.C k34 w A0 l0.length l0) (hc0 : l0.length ≤ c0) (h : impl_TreeOk.f k l0 = some r) :
    Calls Tryd.prog 33 #[.slice A0 l0.length c0] w fun e w' => e = .returned (.bool r) ∧ Below w.heap.size w w' := by
  have hu34 := Tryd.underlying34
  have HE := Aside0.mk hE
  clear hE
  have HR0 := Aside0.mk hr0
  have HC0 := Aside0.mk hc0
  clear hr0 hc0
  have HB := Aside0.mk (Below.refl w.heap.size w)
  have H : (if (l0.length : Int) > 500 then (some false) else (impl_TreeOk.l0 k l0 (([] : List (ByteArray × Int))) l0 (l0.length : Int) 0)) = some r := h
  clear h
  by_cases c2 : (l0.length : Int) > 500
  · rw [if_pos c2] at H
    have c2b0 : decide (500 < (l0.length : Int)) = true := decide_eq_true c2
    have c2b1 : decide (500 < l0.length) = true := decide_eq_true (by omega)
    clear c2
    obtain rfl := Option.some.inj H
    go_enter Tryd.func33, Tryd.ntmps33
    go_wp2
    go_ret
    exact ⟨by first | rfl | (simp [errW_none, errW_some] <;> rfl) | (simp [*, errW_none, errW_some] <;> rfl), by repeat (first | (with_reducible first | exact HB.out | apply below_alloc | apply pw_below_drewN | apply below_drew1) | exact HB.out)⟩
  · rw [if_neg c2] at H
    have c2b0 : decide (500 < (l0.length : Int)) = false := decide_eq_false c2
    have c2b1 : decide (500 < l0.length) = false := decide_eq_false (by omega)
    clear c2
    obtain ⟨y193, hy193⟩ : ∃ y_ : List (ByteArray × Int), y_ = (([] : List (ByteArray × Int))) := ⟨_, rfl⟩
    replace H : (impl_TreeOk.l0 k l0 y193 l0 (l0.length : Int) 0) = some r := by first | (rw [hy193]; with_reducible exact H) | (have H2_ := (Option.bind_some _ _).symm.trans H; rw [hy193]; with_reducible exact H2_) | (have H2_ := (Option.bind_some _ _).symm.trans H; with_reducible exact H2_) | with_reducible exact H | (rw [hy193]; exact H) | exact H
    have Ny193 := Aside0.mk hy193
    clear hy193
    have H' := Aside0.mk H
    clear H
    go_enter Tryd.func33, Tryd.ntmps33
    go_wp2_with (first | ((with_reducible refine gate_dst (N := 13) rfl ?_); (try (refine gate_guard (by rfl) ?_; dsimp only)); refine map_new (kkStr Tryd.prog 9 Tryd.underlying9) ekI64 rfl (N := 13) rfl 72 rfl ?_; intro gm195 gg4 w3 hmp hb; rw [← Ny193.out] at hmp; have n0_ := Aside0.mk (below_step (by repeat (first | (with_reducible first | exact HB.out | apply below_alloc | apply pw_below_drewN | apply below_drew1) | exact HB.out)) hb); have n1_ := Aside0.mk (hmp); have n2_ := Aside0.mk ((by rw [gg4]; exact (below_size (by repeat (first | (with_reducible first | exact HB.out | apply below_alloc | apply pw_below_drewN | apply below_drew1) | exact HB.out))) : w.heap.size ≤ gm195)); clear HB; have HB := n0_; have HM194 := n1_; have GMgm195 := n2_; clear n0_ n1_ n2_; clear hb hmp gg4))
    go_loopg [16] k (fun kq v16 w' => ∃ (x3_1 : List (ByteArray × Int)) (x16_1 : Int), v16 = .int .i64 x16_1 ∧ Aside0 (impl_TreeOk.l0 kq l0 x3_1 l0 (l0.length : Int) x16_1 = some r) ∧ Aside0 (kq ≤ k) ∧ Aside0 (MapAt (kkStr Tryd.prog 9 Tryd.underlying9) ekI64 w' gm195 x3_1) ∧ Aside0 (Below w.heap.size w w'))
    case atStart => exact ⟨(y193), (0), (by first | rfl | (simp; done) | (simp [*]; done)), H', ⟨Nat.le_refl _⟩, ⟨show MapAt (kkStr Tryd.prog 9 Tryd.underlying9) ekI64 _ gm195 y193 from by (with_reducible repeat (first | refine MapAt.alloc ?_ _ | refine MapAt.drewN ?_ _ | refine MapAt.drew ?_)); exact HM194.out⟩, ⟨by repeat (first | (with_reducible first | exact HB.out | apply below_alloc | apply pw_below_drewN | apply below_drew1) | exact HB.out)⟩⟩
    case round =>
      clear H'
      try clear c2
      try clear c2b0
      try clear c2b1
      try clear p2
      try clear c3
      obtain ⟨x3_1, x16_1, rfl, HA, HK1, HM_3, HB⟩ := hrel
      cases gk with
      | zero => exact absurd HA.out (by simp [impl_TreeOk.l0])
      | succ k1 =>
        have H := HA.out
        clear HA
        simp only [impl_TreeOk.l0] at H
        by_cases c5 : x16_1 < (l0.length : Int)
        · rw [if_pos c5] at H
          have c5b0 : decide (x16_1 < (l0.length : Int)) = true := decide_eq_true c5
          clear c5
          by_cases c6 : 0 ≤ x16_1
          · rw [if_pos c6] at H
            have c6b0 : decide (0 ≤ x16_1) = true := decide_eq_true c6
            clear c6
            by_cases c7 : x16_1 < (l0.length : Int)
            · rw [if_pos c7] at H
              have c7b0 : decide (x16_1 < (l0.length : Int)) = true := decide_eq_true c7
              clear c7
              have HC8 := Aside0.mk H
              clear H
              have p196 : 0 ≤ (x16_1 : Int) := of_decide_eq_true (by first | (with_reducible assumption) | assumption)
              have q196 : x16_1 < (l0.length : Int) := of_decide_eq_true (by first | (with_reducible assumption) | assumption)
              obtain ⟨ad196, e196, hx196_0, hx196_1, hx196_2, hx196_3⟩ := at_T34 HR0.out x16_1 p196 q196
              cases e196
              replace hx196_0 := (HB.out.cell (World.block_lt_of_cell? w _ hx196_0)).trans hx196_0
              replace hx196_1 := (HB.out.cell (World.block_lt_of_cell? w _ hx196_1)).trans hx196_1
              replace hx196_2 := (HB.out.cell (World.block_lt_of_cell? w _ hx196_2)).trans hx196_2
              replace hx196_3 := (HB.out.cell (World.block_lt_of_cell? w _ hx196_3)).trans hx196_3
              replace p196 := eq_true p196
              replace q196 := eq_true q196
              go_upto_region 7 with (first | ((with_reducible refine gate_dst (N := 5) rfl ?_); (try (refine gate_guard (by rfl) ?_; dsimp only)); refine box_event ?hg (N := 5) ?hd (cs := #[.string (⟨#[]⟩ : ByteArray), .int .i64 0, .string (⟨#[]⟩ : ByteArray), .bool false]) (t := 34) ?hr ?_; (case hd => rfl); (case hg => rfl); (case hr => first | (go_simp; done) | (go_simp; rfl)); intro gb197 hg w9 hbox hb; have n0_ := Aside0.mk (MapAt.below (show MapAt (kkStr Tryd.prog 9 Tryd.underlying9) ekI64 _ gm195 x3_1 from by (with_reducible repeat (first | refine MapAt.alloc ?_ _ | refine MapAt.drewN ?_ _ | refine MapAt.drew ?_)); exact HM_3.out) hb); have n1_ := Aside0.mk (below_step (by repeat (first | (with_reducible first | exact HB.out | apply below_alloc | apply pw_below_drewN | apply below_drew1) | exact HB.out)) hb); have n2_ := Aside0.mk (hbox); have n3_ := Aside0.mk ((by rw [hg]; exact (below_size (by repeat (first | (with_reducible first | exact HB.out | apply below_alloc | apply pw_below_drewN | apply below_drew1) | exact HB.out))) : w.heap.size ≤ gb197)); have n4_ := Aside0.mk ((by rw [hg]; exact (below_size (by repeat (first | (with_reducible first | exact HB.out | apply below_alloc | apply pw_below_drewN | apply below_drew1) | exact HB.out))) : w.heap.size ≤ gb197)); clear HM_3; clear HB; have HM_3 := n0_; have HB := n1_; have BK197 := n2_; have GW197 := n3_; have GE197 := n4_; clear n0_ n1_ n2_ n3_ n4_; clear hb hbox hg; have hcz10_0 : w9.cell? ⟨gb197, 0, none⟩ = some (.string (⟨#[]⟩ : ByteArray)) := (blk_cell BK197.out 0).trans rfl; have hcz10_1 : w9.cell? ⟨gb197, 1, none⟩ = some (.int .i64 0) := (blk_cell BK197.out 1).trans rfl; have hcz10_2 : w9.cell? ⟨gb197, 2, none⟩ = some (.string (⟨#[]⟩ : ByteArray)) := (blk_cell BK197.out 2).trans rfl; have hcz10_3 : w9.cell? ⟨gb197, 3, none⟩ = some (.bool false) := (blk_cell BK197.out 3).trans rfl; have hfz10_0 := blk_frozen BK197.out 0; have hfz10_1 := blk_frozen BK197.out 1; have hfz10_2 := blk_frozen BK197.out 2; have hfz10_3 := blk_frozen BK197.out 3))
              (try simp only [Act.put, List.setIfInBounds_toArray, List.set_cons_zero, List.set_cons_succ])
              go_cut [48] (fun v48 wc => ∃ (kq : Nat) (x48_7 : Bool), v48 = .bool x48_7 ∧ Aside0 (impl_TreeOk.j1 kq l0 x3_1 l0 (l0.length : Int) x16_1 x48_7 ((rd_T34 l0 x16_1).f0) ((rd_T34 l0 x16_1).f1) ((rd_T34 l0 x16_1).f2) ((rd_T34 l0 x16_1).f3) = some r) ∧ Aside0 (kq ≤ k1) ∧ Aside0 (MapAt (kkStr Tryd.prog 9 Tryd.underlying9) ekI64 wc gm195 x3_1) ∧ Aside0 (wc.heap[gb197]? = some (.cells #[.string ((rd_T34 l0 x16_1).f0), .int .i64 ((rd_T34 l0 x16_1).f1), .string ((rd_T34 l0 x16_1).f2), .bool ((rd_T34 l0 x16_1).f3)] 34 (0, 0))) ∧ Aside0 (Below w.heap.size w wc))
              case first =>
                have H := HC8.out
                clear HC8
                replace H := Option.bind_eq_some_iff.mp H
                obtain ⟨t198, A110, H⟩ := H
                replace H : (if t198 = true then (if x16_1 > 0 then (if 0 ≤ (wrap64 (x16_1 - 1)) then (if (wrap64 (x16_1 - 1)) < (l0.length : Int) then (if ((Op.bytesLess (((rd_T34 l0 (wrap64 (x16_1 - 1))).f0).toList) (((rd_T34 l0 x16_1).f0).toList)) = true) then (if (rd_T34 l0 x16_1).f3 = true then (impl_TreeOk.j1 k1 l0 x3_1 l0 (l0.length : Int) x16_1 (((rd_T34 l0 x16_1).f1) != 2) ((rd_T34 l0 x16_1).f0) ((rd_T34 l0 x16_1).f1) ((rd_T34 l0 x16_1).f2) ((rd_T34 l0 x16_1).f3)) else (impl_TreeOk.j1 k1 l0 x3_1 l0 (l0.length : Int) x16_1 false ((rd_T34 l0 x16_1).f0) ((rd_T34 l0 x16_1).f1) ((rd_T34 l0 x16_1).f2) ((rd_T34 l0 x16_1).f3))) else (impl_TreeOk.j1 k1 l0 x3_1 l0 (l0.length : Int) x16_1 true ((rd_T34 l0 x16_1).f0) ((rd_T34 l0 x16_1).f1) ((rd_T34 l0 x16_1).f2) ((rd_T34 l0 x16_1).f3))) else (none)) else (none)) else (if (rd_T34 l0 x16_1).f3 = true then (impl_TreeOk.j1 k1 l0 x3_1 l0 (l0.length : Int) x16_1 (((rd_T34 l0 x16_1).f1) != 2) ((rd_T34 l0 x16_1).f0) ((rd_T34 l0 x16_1).f1) ((rd_T34 l0 x16_1).f2) ((rd_T34 l0 x16_1).f3)) else (impl_TreeOk.j1 k1 l0 x3_1 l0 (l0.length : Int) x16_1 false ((rd_T34 l0 x16_1).f0) ((rd_T34 l0 x16_1).f1) ((rd_T34 l0 x16_1).f2) ((rd_T34 l0 x16_1).f3)))) else (impl_TreeOk.j1 k1 l0 x3_1 l0 (l0.length : Int) x16_1 true ((rd_T34 l0 x16_1).f0) ((rd_T34 l0 x16_1).f1) ((rd_T34 l0 x16_1).f2) ((rd_T34 l0 x16_1).f3))) = some r := H
                have A11 := Aside0.mk A110
                clear A110
                by_cases c12 : t198 = true
                · subst c12
                  have H1 : (if x16_1 > 0 then (if 0 ≤ (wrap64 (x16_1 - 1)) then (if (wrap64 (x16_1 - 1)) < (l0.length : Int) then (if ((Op.bytesLess (((rd_T34 l0 (wrap64 (x16_1 - 1))).f0).toList) (((rd_T34 l0 x16_1).f0).toList)) = true) then (if (rd_T34 l0 x16_1).f3 = true then (impl_TreeOk.j1 k1 l0 x3_1 l0 (l0.length : Int) x16_1 (((rd_T34 l0 x16_1).f1) != 2) ((rd_T34 l0 x16_1).f0) ((rd_T34 l0 x16_1).f1) ((rd_T34 l0 x16_1).f2) ((rd_T34 l0 x16_1).f3)) else (impl_TreeOk.j1 k1 l0 x3_1 l0 (l0.length : Int) x16_1 false ((rd_T34 l0 x16_1).f0) ((rd_T34 l0 x16_1).f1) ((rd_T34 l0 x16_1).f2) ((rd_T34 l0 x16_1).f3))) else (impl_TreeOk.j1 k1 l0 x3_1 l0 (l0.length : Int) x16_1 true ((rd_T34 l0 x16_1).f0) ((rd_T34 l0 x16_1).f1) ((rd_T34 l0 x16_1).f2) ((rd_T34 l0 x16_1).f3))) else (none)) else (none)) else (if (rd_T34 l0 x16_1).f3 = true then (impl_TreeOk.j1 k1 l0 x3_1 l0 (l0.length : Int) x16_1 (((rd_T34 l0 x16_1).f1) != 2) ((rd_T34 l0 x16_1).f0) ((rd_T34 l0 x16_1).f1) ((rd_T34 l0 x16_1).f2) ((rd_T34 l0 x16_1).f3)) else (impl_TreeOk.j1 k1 l0 x3_1 l0 (l0.length : Int) x16_1 false ((rd_T34 l0 x16_1).f0) ((rd_T34 l0 x16_1).f1) ((rd_T34 l0 x16_1).f2) ((rd_T34 l0 x16_1).f3)))) = some r := by rw [if_pos rfl] at H; exact H
                  clear H
                  have H := H1
                  clear H1
                  by_cases c13 : x16_1 > 0
                  · rw [if_pos c13] at H
                    have c13b0 : decide (0 < x16_1) = true := decide_eq_true c13
                    clear c13
                    (first | rw [c13b0] | (simp only [i64_w, i32_w]; rw [c13b0]) | skip)
                    obtain ⟨ji14, hji14⟩ : ∃ j_ : Int, (wrap64 (x16_1 - 1)) = j_ := ⟨_, rfl⟩
                    replace H : (if 0 ≤ (ji14) then (if (ji14) < (l0.length : Int) then (if ((Op.bytesLess (((rd_T34 l0 (ji14)).f0).toList) (((rd_T34 l0 x16_1).f0).toList)) = true) then (if (rd_T34 l0 x16_1).f3 = true then (impl_TreeOk.j1 k1 l0 x3_1 l0 (l0.length : Int) x16_1 (((rd_T34 l0 x16_1).f1) != 2) ((rd_T34 l0 x16_1).f0) ((rd_T34 l0 x16_1).f1) ((rd_T34 l0 x16_1).f2) ((rd_T34 l0 x16_1).f3)) else (impl_TreeOk.j1 k1 l0 x3_1 l0 (l0.length : Int) x16_1 false ((rd_T34 l0 x16_1).f0) ((rd_T34 l0 x16_1).f1) ((rd_T34 l0 x16_1).f2) ((rd_T34 l0 x16_1).f3))) else (impl_TreeOk.j1 k1 l0 x3_1 l0 (l0.length : Int) x16_1 true ((rd_T34 l0 x16_1).f0) ((rd_T34 l0 x16_1).f1) ((rd_T34 l0 x16_1).f2) ((rd_T34 l0 x16_1).f3))) else (none)) else (none)) = some r := by first | (rw [hji14] at H; exact H) | (simp only [hji14] at H ⊢; exact H)
                    (try rw [hji14] at A11)
                    have hji14w : (IntKind.i64.wrap (x16_1 - 1)) = ji14 := (i64_w _).trans hji14
                    by_cases c15 : 0 ≤ (ji14)
                    · rw [if_pos c15] at H
                      have c15b0 : decide (0 ≤ (ji14)) = true := decide_eq_true c15
                      clear c15
                      by_cases c16 : (ji14) < (l0.length : Int)
                      · rw [if_pos c16] at H
                        have c16b0 : decide ((ji14) < (l0.length : Int)) = true := decide_eq_true c16
                        clear c16
                        by_cases c17 : ((Op.bytesLess (((rd_T34 l0 (ji14)).f0).toList) (((rd_T34 l0 x16_1).f0).toList)) = true)
                        · rw [if_pos c17] at H
                          have c17b0 : (Op.bytesLess (((rd_T34 l0 (ji14)).f0).toList) (((rd_T34 l0 x16_1).f0).toList)) = true := c17
                          clear c17
                          obtain ⟨bq18, hbq18⟩ : ∃ b_ : Bool, b_ = ((rd_T34 l0 x16_1).f3) := ⟨_, rfl⟩
                          replace H : (if bq18 = true then (impl_TreeOk.j1 k1 l0 x3_1 l0 (l0.length : Int) x16_1 (((rd_T34 l0 x16_1).f1) != 2) ((rd_T34 l0 x16_1).f0) ((rd_T34 l0 x16_1).f1) ((rd_T34 l0 x16_1).f2) bq18) else (impl_TreeOk.j1 k1 l0 x3_1 l0 (l0.length : Int) x16_1 false ((rd_T34 l0 x16_1).f0) ((rd_T34 l0 x16_1).f1) ((rd_T34 l0 x16_1).f2) bq18)) = some r := by rw [← hbq18] at H; exact H
                          have Nbq18 := Aside0.mk hbq18
                          clear hbq18
                          by_cases c19 : bq18 = true
                          · subst c19
                            have H1 : (impl_TreeOk.j1 k1 l0 x3_1 l0 (l0.length : Int) x16_1 (((rd_T34 l0 x16_1).f1) != 2) ((rd_T34 l0 x16_1).f0) ((rd_T34 l0 x16_1).f1) ((rd_T34 l0 x16_1).f2) true) = some r := by rw [if_pos rfl] at H; exact H
                            clear H
                            have H := H1
                            clear H1
                            have H' := Aside0.mk H
                            clear H
                            try go_wp2
                            have n0_ : Aside0 (((((w9.setCell ⟨gb197, 0, none⟩ (.string ((rd_T34 l0 x16_1).f0))).setCell ⟨gb197, 1, none⟩ (.int .i64 ((rd_T34 l0 x16_1).f1))).setCell ⟨gb197, 2, none⟩ (.string ((rd_T34 l0 x16_1).f2))).setCell ⟨gb197, 3, none⟩ (.bool (true))).heap[gb197]? = some (.cells #[.string ((rd_T34 l0 x16_1).f0), .int .i64 ((rd_T34 l0 x16_1).f1), .string ((rd_T34 l0 x16_1).f2), .bool true] 34 (0, 0))) := ⟨by (with_reducible repeat (first | refine blk_drewN ?_ _ | refine blk_drew ?_ | refine blk_alloc ?_ _)); refine blk_put (cs := #[.string ((rd_T34 l0 x16_1).f0), .int .i64 ((rd_T34 l0 x16_1).f1), .string ((rd_T34 l0 x16_1).f2), .bool false]) ?_ 3 _ rfl; (with_reducible repeat (first | refine blk_drewN ?_ _ | refine blk_drew ?_ | refine blk_alloc ?_ _)); refine blk_put (cs := #[.string ((rd_T34 l0 x16_1).f0), .int .i64 ((rd_T34 l0 x16_1).f1), .string (⟨#[]⟩ : ByteArray), .bool false]) ?_ 2 _ rfl; (with_reducible repeat (first | refine blk_drewN ?_ _ | refine blk_drew ?_ | refine blk_alloc ?_ _)); refine blk_put (cs := #[.string ((rd_T34 l0 x16_1).f0), .int .i64 0, .string (⟨#[]⟩ : ByteArray), .bool false]) ?_ 1 _ rfl; (with_reducible repeat (first | refine blk_drewN ?_ _ | refine blk_drew ?_ | refine blk_alloc ?_ _)); refine blk_put (cs := #[.string (⟨#[]⟩ : ByteArray), .int .i64 0, .string (⟨#[]⟩ : ByteArray), .bool false]) ?_ 0 _ rfl; (with_reducible repeat (first | refine blk_drewN ?_ _ | refine blk_drew ?_ | refine blk_alloc ?_ _)); exact BK197.out⟩
                            have n1_ : Aside0 (MapAt (kkStr Tryd.prog 9 Tryd.underlying9) ekI64 ((((w9.setCell ⟨gb197, 0, none⟩ (.string ((rd_T34 l0 x16_1).f0))).setCell ⟨gb197, 1, none⟩ (.int .i64 ((rd_T34 l0 x16_1).f1))).setCell ⟨gb197, 2, none⟩ (.string ((rd_T34 l0 x16_1).f2))).setCell ⟨gb197, 3, none⟩ (.bool (true))) gm195 x3_1) := ⟨by (with_reducible repeat (first | refine MapAt.alloc ?_ _ | refine MapAt.drewN ?_ _ | refine MapAt.drew ?_ | refine MapAt.set_ ?_ _ _)); exact HM_3.out⟩
                            have n2_ : Aside0 (Below w.heap.size w ((((w9.setCell ⟨gb197, 0, none⟩ (.string ((rd_T34 l0 x16_1).f0))).setCell ⟨gb197, 1, none⟩ (.int .i64 ((rd_T34 l0 x16_1).f1))).setCell ⟨gb197, 2, none⟩ (.string ((rd_T34 l0 x16_1).f2))).setCell ⟨gb197, 3, none⟩ (.bool (true)))) := ⟨by repeat (first | (with_reducible first | exact HB.out | apply below_alloc | apply pw_below_drewN | apply below_drew1 | refine below_set ?_ GE197.out) | exact HB.out)⟩
                            (try rw [← Nbq18.out])
                            (try clear BK197)
                            (try clear HM_3)
                            (try clear HB)
                            generalize ((((w9.setCell ⟨gb197, 0, none⟩ (.string ((rd_T34 l0 x16_1).f0))).setCell ⟨gb197, 1, none⟩ (.int .i64 ((rd_T34 l0 x16_1).f1))).setCell ⟨gb197, 2, none⟩ (.string ((rd_T34 l0 x16_1).f2))).setCell ⟨gb197, 3, none⟩ (.bool (true))) = w20 at n0_ n1_ n2_ ⊢
                            have BK197 := n0_
                            have HM_3 := n1_
                            have HB := n2_
                            clear n0_ n1_ n2_
                            have n0_ := Aside0.mk (blk_drew BK197.out)
                            have n1_ := Aside0.mk (MapAt.drew HM_3.out)
                            have n2_ := Aside0.mk (below_drew1 HB.out)
                            clear BK197
                            clear HM_3
                            clear HB
                            have BK197 := n0_
                            have HM_3 := n1_
                            have HB := n2_
                            clear n0_ n1_ n2_
                            have p199 : 0 ≤ ((ji14) : Int) := of_decide_eq_true (by first | (with_reducible assumption) | assumption)
                            have q199 : (ji14) < (l0.length : Int) := of_decide_eq_true (by first | (with_reducible assumption) | assumption)
                            obtain ⟨ad199, e199, hx199_0, hx199_1, hx199_2, hx199_3⟩ := at_T34 HR0.out (ji14) p199 q199
                            have hw199_3 := hx199_3
                            (try rw [← Nbq18.out] at hw199_3)
                            have hw199_2 := hx199_2
                            (try rw [← Nbq18.out] at hw199_2)
                            have hw199_1 := hx199_1
                            (try rw [← Nbq18.out] at hw199_1)
                            have hw199_0 := hx199_0
                            (try rw [← Nbq18.out] at hw199_0)
                            (try rw [← Nbq18.out] at hx199_3)
                            obtain rfl : ad196 = ad199 := (by injection e199)
                            replace hx199_0 := (HB.out.cell (World.block_lt_of_cell? w _ hx199_0)).trans hx199_0
                            replace hx199_1 := (HB.out.cell (World.block_lt_of_cell? w _ hx199_1)).trans hx199_1
                            replace hx199_2 := (HB.out.cell (World.block_lt_of_cell? w _ hx199_2)).trans hx199_2
                            replace hx199_3 := (HB.out.cell (World.block_lt_of_cell? w _ hx199_3)).trans hx199_3
                            replace p199 := eq_true p199
                            replace q199 := eq_true q199
                            refine start_ (n := 28) (S := fun w' => w'.cell? ⟨gb197, 0, none⟩ = some (.string ((rd_T34 l0 x16_1).f0)) ∧ w'.cell? ⟨gb197, 1, none⟩ = some (.int .i64 ((rd_T34 l0 x16_1).f1)) ∧ w'.cell? ⟨gb197, 2, none⟩ = some (.string ((rd_T34 l0 x16_1).f2)) ∧ w'.cell? ⟨gb197, 3, none⟩ = some (.bool true) ∧ w'.cell? (ad196.add (((ji14)).toNat * 4)) = some (.string ((rd_T34 l0 (ji14)).f0)) ∧ w'.cell? ⟨(ad196.add (((ji14)).toNat * 4)).block, (ad196.add (((ji14)).toNat * 4)).off + 1, none⟩ = some (.int .i64 ((rd_T34 l0 (ji14)).f1)) ∧ w'.cell? ⟨(ad196.add (((ji14)).toNat * 4)).block, (ad196.add (((ji14)).toNat * 4)).off + 2, none⟩ = some (.string ((rd_T34 l0 (ji14)).f2)) ∧ w'.cell? ⟨(ad196.add (((ji14)).toNat * 4)).block, (ad196.add (((ji14)).toNat * 4)).off + 3, none⟩ = some (.bool ((rd_T34 l0 (ji14)).f3))) (ds := []) #[false, false, false, false, false, false, false, false, false, false, false, false, false, false, false, false, false, false, false, false, false, false, false, false, false, false, false, false] (by kernel_rfl) rfl rfl ⟨(blk_cell BK197.out 0).trans rfl, (blk_cell BK197.out 1).trans rfl, (blk_cell BK197.out 2).trans rfl, (blk_cell BK197.out 3).trans rfl, ((HB.out.cell (World.block_lt_of_cell? w _ hw199_0)).trans hw199_0), ((HB.out.cell (World.block_lt_of_cell? w _ hw199_1)).trans hw199_1), ((HB.out.cell (World.block_lt_of_cell? w _ hw199_2)).trans hw199_2), ((HB.out.cell (World.block_lt_of_cell? w _ hw199_3)).trans hw199_3)⟩ (fun hHeld => ?_); refine with_tabW impl_TreeOk.tab7 impl_TreeOk.bits7 (fun HT_ HW_ => ?_)
                            generalize w20.drew = w21 at BK197 HM_3 HB hx199_0 hx199_1 hx199_2 hx199_3 hHeld ⊢
                            refine pure_ (i := 0) (N := some 21) (v := ?_) (a' := ?_) #[true, false, false, false, false, false, false, false, false, false, false, false, false, false, false, false, false, false, false, false, false, false, false, false, false, false, false, false] rfl rfl (any_of HT_.out (by kernel_rfl)) (fun _ _ _ h => h) (Or.inl ⟨by rfl, ?_⟩) ?_ ?_
                            rotate_left
                            · intro w'
                              go_simp
                              with_reducible rfl
                            rotate_left
                            · simp only [Act.put, List.setIfInBounds_toArray, List.set_cons_zero, List.set_cons_succ, i64_w, i32_w]
                              rfl
                            refine take_ (i := 1) (N := some 22) (v := ?_) (a' := ?_) #[true, true, false, false, false, false, false, false, false, false, false, false, false, false, false, false, false, false, false, false, false, false, false, false, false, false, false, false] rfl rfl (take_ofW HT_.out HW_.out (by kernel_rfl)) (fun _ _ _ h => h) (Or.inl ⟨by rfl, ?_⟩) hHeld ?_ ?_
                            rotate_left
                            · rintro w' ⟨s0, s1, s2, s3, s4, s5, s6, s7⟩
                              go_simp
                              with_reducible rfl
                            rotate_left
                            · simp only [Act.put, List.setIfInBounds_toArray, List.set_cons_zero, List.set_cons_succ, i64_w, i32_w]
                              rfl
                            refine one_ (i := 2) (N := some 23) #[true, true, true, false, false, false, false, false, false, false, false, false, false, false, false, false, false, false, false, false, false, false, false, false, false, false, false, false] rfl rfl (one_of HT_.out (by kernel_rfl)) (by decide) (fun K hK => ?_)
                            refine goes_ Tryd.func56 (by kernel_rfl) rfl #[.string ((rd_T34 l0 x16_1).f0)] (by rfl) rfl rfl (by (try simp only [List.map_toArray, List.map_cons, List.map_nil]); first | done | rfl | (simp only [List.length_drop, List.length_take]; rfl)) ?_
                            with_reducible refine (impl_pathOk.calls k1 ((rd_T34 l0 x16_1).f0) true _ ?side1 A11.out).mono ?_
                            (case side1 => refine EnvW.below HE.out ?_; repeat (first | (with_reducible first | exact HB.out | apply below_alloc | apply pw_below_drewN | apply below_drew1 | refine below_set ?_ GE197.out) | exact HB.out))
                            rintro e w22 ⟨rfl, hb⟩
                            refine ⟨_, rfl, ?_⟩
                            have n0_ := Aside0.mk (MapAt.below (show MapAt (kkStr Tryd.prog 9 Tryd.underlying9) ekI64 _ gm195 x3_1 from by (with_reducible repeat (first | refine MapAt.alloc ?_ _ | refine MapAt.drewN ?_ _ | refine MapAt.drew ?_)); exact HM_3.out) hb)
                            have n1_ := Aside0.mk (blk_below (g := gb197) (o := .cells #[.string ((rd_T34 l0 x16_1).f0), .int .i64 ((rd_T34 l0 x16_1).f1), .string ((rd_T34 l0 x16_1).f2), .bool true] 34 (0, 0)) (by (with_reducible repeat (first | refine blk_drewN ?_ _ | refine blk_drew ?_ | refine blk_alloc ?_ _)); exact BK197.out) hb)
                            have n2_ := Aside0.mk (below_step (by repeat (first | (with_reducible first | exact HB.out | apply below_alloc | apply pw_below_drewN | apply below_drew1 | refine below_set ?_ GE197.out) | exact HB.out)) hb)
                            clear HM_3
                            clear BK197
                            clear HB
                            have HM_3 := n0_
                            have BK197 := n1_
                            have HB := n2_
                            clear n0_ n1_ n2_
                            (try clear hb)
                            (try clear hb2)
                            (try clear hk)
                            (try clear hi)
                            refine hK.out _ _ ⟨(blk_cell BK197.out 0).trans rfl, (blk_cell BK197.out 1).trans rfl, (blk_cell BK197.out 2).trans rfl, (blk_cell BK197.out 3).trans rfl, ((HB.out.cell (World.block_lt_of_cell? w _ hw199_0)).trans hw199_0), ((HB.out.cell (World.block_lt_of_cell? w _ hw199_1)).trans hw199_1), ((HB.out.cell (World.block_lt_of_cell? w _ hw199_2)).trans hw199_2), ((HB.out.cell (World.block_lt_of_cell? w _ hw199_3)).trans hw199_3)⟩ (fun hHeld => ?_)
                            clear hK K
                            refine norm_ (a' := ?_) ?_ ?_
                            rotate_left
                            · show Act.put _ (some 23) _ = _
                              simp only [Act.put, List.setIfInBounds_toArray, List.set_cons_zero, List.set_cons_succ, i64_w, i32_w]
                              rfl
                            refine pure_ (i := 3) (N := some 24) (v := ?_) (a' := ?_) #[true, true, true, true, false, false, false, false, false, false, false, false, false, false, false, false, false, false, false, false, false, false, false, false, false, false, false, false] rfl rfl (any_of HT_.out (by kernel_rfl)) (fun _ _ _ h => h) (Or.inl ⟨by rfl, ?_⟩) ?_ ?_
                            rotate_left
                            · intro w'
                              go_simp
                              with_reducible rfl
                            rotate_left
                            · simp only [Act.put, List.setIfInBounds_toArray, List.set_cons_zero, List.set_cons_succ, i64_w, i32_w]
                              rfl
                            refine pure_ (i := 4) (N := some 25) (v := ?_) (a' := ?_) #[true, true, true, true, true, false, false, false, false, false, false, false, false, false, false, false, false, false, false, false, false, false, false, false, false, false, false, false] rfl rfl (any_of HT_.out (by kernel_rfl)) (fun _ _ _ h => h) (Or.inl ⟨by rfl, ?_⟩) ?_ ?_
                            rotate_left
                            · intro w'
                              go_simp
                              with_reducible rfl
                            rotate_left
                            · simp only [Act.put, List.setIfInBounds_toArray, List.set_cons_zero, List.set_cons_succ, i64_w, i32_w]
                              rfl
                            refine pure_ (i := 5) (N := some 26) (v := ?_) (a' := ?_) #[true, true, true, true, true, true, false, false, false, false, false, false, false, false, false, false, false, false, false, false, false, false, false, false, false, false, false, false] rfl rfl (any_of HT_.out (by kernel_rfl)) (fun _ _ _ h => h) (Or.inl ⟨by rfl, ?_⟩) ?_ ?_
                            rotate_left
                            · intro w'
                              go_simp
                              with_reducible rfl
                            rotate_left
                            · simp only [Act.put, List.setIfInBounds_toArray, List.set_cons_zero, List.set_cons_succ, i64_w, i32_w]
                              rfl
                            refine pure_ (i := 6) (N := some 27) (v := ?_) (a' := ?_) #[true, true, true, true, true, true, true, false, false, false, false, false, false, false, false, false, false, false, false, false, false, false, false, false, false, false, false, false] rfl rfl (any_of HT_.out (by kernel_rfl)) (fun _ _ _ h => h) (Or.inl ⟨by rfl, ?_⟩) ?_ ?_
                            rotate_left
                            · intro w'
                              go_simp
                              with_reducible rfl
                            rotate_left
                            · simp only [Act.put, List.setIfInBounds_toArray, List.set_cons_zero, List.set_cons_succ, i64_w, i32_w]
                              rfl
                            refine pure_ (i := 7) (N := some 28) (v := ?_) (a' := ?_) #[true, true, true, true, true, true, true, true, false, false, false, false, false, false, false, false, false, false, false, false, false, false, false, false, false, false, false, false] rfl rfl (any_of HT_.out (by kernel_rfl)) (fun _ _ _ h => h) (Or.inl ⟨by rfl, ?_⟩) ?_ ?_
                            rotate_left
                            · intro w'
                              go_simp
                              with_reducible rfl
                            rotate_left
                            · simp only [Act.put, List.setIfInBounds_toArray, List.set_cons_zero, List.set_cons_succ, i64_w, i32_w]
                              rfl
                            refine pure_ (i := 8) (N := some 29) (v := ?_) (a' := ?_) #[true, true, true, true, true, true, true, true, true, false, false, false, false, false, false, false, false, false, false, false, false, false, false, false, false, false, false, false] rfl rfl (any_of HT_.out (by kernel_rfl)) (fun _ _ _ h => h) (Or.inl ⟨by rfl, ?_⟩) ?_ ?_
                            rotate_left
                            · intro w'
                              go_simp
                              with_reducible rfl
                            rotate_left
                            · simp only [Act.put, List.setIfInBounds_toArray, List.set_cons_zero, List.set_cons_succ, i64_w, i32_w]
                              rfl
                            refine pure_ (i := 10) (N := some 31) (v := ?_) (a' := ?_) #[true, true, true, true, true, true, true, true, true, false, true, false, false, false, false, false, false, false, false, false, false, false, false, false, false, false, false, false] rfl rfl (any_of HT_.out (by kernel_rfl)) (fun _ _ _ h => h) (Or.inl ⟨by rfl, ?_⟩) ?_ ?_
                            rotate_left
                            · intro w'
                              go_simp
                              with_reducible rfl
                            rotate_left
                            · simp only [Act.put, List.setIfInBounds_toArray, List.set_cons_zero, List.set_cons_succ, i64_w, i32_w]
                              rfl
                            refine pure_ (i := 11) (N := some 32) (v := ?_) (a' := ?_) #[true, true, true, true, true, true, true, true, true, false, true, true, false, false, false, false, false, false, false, false, false, false, false, false, false, false, false, false] rfl rfl (any_of HT_.out (by kernel_rfl)) (fun _ _ _ h => h) (Or.inl ⟨by rfl, ?_⟩) ?_ ?_
                            rotate_left
                            · intro w'
                              go_simp
                              with_reducible rfl
                            rotate_left
                            · simp only [Act.put, List.setIfInBounds_toArray, List.set_cons_zero, List.set_cons_succ, i64_w, i32_w]
                              rfl
                            refine pure_ (i := 12) (N := some 33) (v := ?_) (a' := ?_) #[true, true, true, true, true, true, true, true, true, false, true, true, true, false, false, false, false, false, false, false, false, false, false, false, false, false, false, false] rfl rfl (any_of HT_.out (by kernel_rfl)) (fun _ _ _ h => h) (Or.inl ⟨by rfl, ?_⟩) ?_ ?_
                            rotate_left
                            · intro w'
                              go_simp
                              with_reducible rfl
                            rotate_left
                            · simp only [Act.put, List.setIfInBounds_toArray, List.set_cons_zero, List.set_cons_succ, i64_w, i32_w]
                              rfl
                            refine pure_ (i := 13) (N := some 34) (v := ?_) (a' := ?_) #[true, true, true, true, true, true, true, true, true, false, true, true, true, true, false, false, false, false, false, false, false, false, false, false, false, false, false, false] rfl rfl (any_of HT_.out (by kernel_rfl)) (fun _ _ _ h => h) (Or.inl ⟨by rfl, ?_⟩) ?_ ?_
                            rotate_left
                            · intro w'
                              go_simp
                              with_reducible rfl
                            rotate_left
                            · simp only [Act.put, List.setIfInBounds_toArray, List.set_cons_zero, List.set_cons_succ, i64_w, i32_w]
                              rfl
                            refine pure_ (i := 14) (N := some 35) (v := ?_) (a' := ?_) #[true, true, true, true, true, true, true, true, true, false, true, true, true, true, true, false, false, false, false, false, false, false, false, false, false, false, false, false] rfl rfl (any_of HT_.out (by kernel_rfl)) (fun _ _ _ h => h) (Or.inl ⟨by rfl, ?_⟩) ?_ ?_
                            rotate_left
                            · intro w'
                              go_simp
                              with_reducible rfl
                            rotate_left
                            · simp only [Act.put, List.setIfInBounds_toArray, List.set_cons_zero, List.set_cons_succ, i64_w, i32_w]
                              rfl
                            refine take_ (i := 9) (N := some 30) (v := ?_) (a' := ?_) #[true, true, true, true, true, true, true, true, true, true, true, true, true, true, true, false, false, false, false, false, false, false, false, false, false, false, false, false] rfl rfl (take_ofW HT_.out HW_.out (by kernel_rfl)) (fun _ _ _ h => h) (Or.inl ⟨by rfl, ?_⟩) hHeld ?_ ?_
                            rotate_left
                            · rintro w' ⟨s0, s1, s2, s3, s4, s5, s6, s7⟩
                              go_simp
                              with_reducible rfl
                            rotate_left
                            · simp only [Act.put, List.setIfInBounds_toArray, List.set_cons_zero, List.set_cons_succ, i64_w, i32_w]
                              rfl
                            refine take_ (i := 15) (N := some 36) (v := ?_) (a' := ?_) #[true, true, true, true, true, true, true, true, true, true, true, true, true, true, true, true, false, false, false, false, false, false, false, false, false, false, false, false] rfl rfl (take_ofW HT_.out HW_.out (by kernel_rfl)) (fun _ _ _ h => h) (Or.inl ⟨by rfl, ?_⟩) hHeld ?_ ?_
                            rotate_left
                            · rintro w' ⟨s0, s1, s2, s3, s4, s5, s6, s7⟩
                              go_simp
                              with_reducible rfl
                            rotate_left
                            · simp only [Act.put, List.setIfInBounds_toArray, List.set_cons_zero, List.set_cons_succ, i64_w, i32_w]
                              rfl
                            refine pure_ (i := 16) (N := some 37) (v := ?_) (a' := ?_) #[true, true, true, true, true, true, true, true, true, true, true, true, true, true, true, true, true, false, false, false, false, false, false, false, false, false, false, false] rfl rfl (any_of HT_.out (by kernel_rfl)) (fun _ _ _ h => h) (Or.inl ⟨by rfl, ?_⟩) ?_ ?_
                            rotate_left
                            · intro w'
                              go_simp
                              with_reducible rfl
                            rotate_left
                            · simp only [Act.put, List.setIfInBounds_toArray, List.set_cons_zero, List.set_cons_succ, i64_w, i32_w]
                              rfl
                            refine pure_ (i := 17) (N := some 38) (v := ?_) (a' := ?_) #[true, true, true, true, true, true, true, true, true, true, true, true, true, true, true, true, true, true, false, false, false, false, false, false, false, false, false, false] rfl rfl (any_of HT_.out (by kernel_rfl)) (fun _ _ _ h => h) (Or.inl ⟨by rfl, ?_⟩) ?_ ?_
                            rotate_left
                            · intro w'
                              go_simp
                              with_reducible rfl
                            rotate_left
                            · simp only [Act.put, List.setIfInBounds_toArray, List.set_cons_zero, List.set_cons_succ, i64_w, i32_w]
                              rfl
                            refine pure_ (i := 18) (N := some 39) (v := ?_) (a' := ?_) #[true, true, true, true, true, true, true, true, true, true, true, true, true, true, true, true, true, true, true, false, false, false, false, false, false, false, false, false] rfl rfl (any_of HT_.out (by kernel_rfl)) (fun _ _ _ h => h) (Or.inl ⟨by rfl, ?_⟩) ?_ ?_
                            rotate_left
                            · intro w'
                              go_simp
                              with_reducible rfl
                            rotate_left
                            · simp only [Act.put, List.setIfInBounds_toArray, List.set_cons_zero, List.set_cons_succ, i64_w, i32_w]
                              rfl
                            refine pure_ (i := 19) (N := some 40) (v := ?_) (a' := ?_) #[true, true, true, true, true, true, true, true, true, true, true, true, true, true, true, true, true, true, true, true, false, false, false, false, false, false, false, false] rfl rfl (any_of HT_.out (by kernel_rfl)) (fun _ _ _ h => h) (Or.inl ⟨by rfl, ?_⟩) ?_ ?_
                            rotate_left
                            · intro w'
                              go_simp
                              with_reducible rfl
                            rotate_left
                            · simp only [Act.put, List.setIfInBounds_toArray, List.set_cons_zero, List.set_cons_succ, i64_w, i32_w]
                              rfl
                            refine pure_ (i := 20) (N := some 41) (v := ?_) (a' := ?_) #[true, true, true, true, true, true, true, true, true, true, true, true, true, true, true, true, true, true, true, true, true, false, false, false, false, false, false, false] rfl rfl (any_of HT_.out (by kernel_rfl)) (fun _ _ _ h => h) (Or.inl ⟨by rfl, ?_⟩) ?_ ?_
                            rotate_left
                            · intro w'
                              go_simp
                              with_reducible rfl
                            rotate_left
                            · simp only [Act.put, List.setIfInBounds_toArray, List.set_cons_zero, List.set_cons_succ, i64_w, i32_w]
                              rfl
                            refine take_ (i := 21) (N := some 42) (v := ?_) (a' := ?_) #[true, true, true, true, true, true, true, true, true, true, true, true, true, true, true, true, true, true, true, true, true, true, false, false, false, false, false, false] rfl rfl (take_ofW HT_.out HW_.out (by kernel_rfl)) (fun _ _ _ h => h) (Or.inl ⟨by rfl, ?_⟩) hHeld ?_ ?_
                            rotate_left
                            · rintro w' ⟨s0, s1, s2, s3, s4, s5, s6, s7⟩
                              go_simp
                              with_reducible rfl
                            rotate_left
                            · simp only [Act.put, List.setIfInBounds_toArray, List.set_cons_zero, List.set_cons_succ, i64_w, i32_w]
                              rfl
                            refine pure_ (i := 22) (N := some 43) (v := ?_) (a' := ?_) #[true, true, true, true, true, true, true, true, true, true, true, true, true, true, true, true, true, true, true, true, true, true, true, false, false, false, false, false] rfl rfl (any_of HT_.out (by kernel_rfl)) (fun _ _ _ h => h) (Or.inl ⟨by rfl, ?_⟩) ?_ ?_
                            rotate_left
                            · intro w'
                              go_simp
                              with_reducible rfl
                            rotate_left
                            · simp only [Act.put, List.setIfInBounds_toArray, List.set_cons_zero, List.set_cons_succ, i64_w, i32_w]
                              rfl
                            refine pure_ (i := 23) (N := some 44) (v := ?_) (a' := ?_) #[true, true, true, true, true, true, true, true, true, true, true, true, true, true, true, true, true, true, true, true, true, true, true, true, false, false, false, false] rfl rfl (any_of HT_.out (by kernel_rfl)) (fun _ _ _ h => h) (Or.inl ⟨by rfl, ?_⟩) ?_ ?_
                            rotate_left
                            · intro w'
                              go_simp
                              with_reducible rfl
                            rotate_left
                            · simp only [Act.put, List.setIfInBounds_toArray, List.set_cons_zero, List.set_cons_succ, i64_w, i32_w]
                              rfl
                            refine take_ (i := 24) (N := some 45) (v := ?_) (a' := ?_) #[true, true, true, true, true, true, true, true, true, true, true, true, true, true, true, true, true, true, true, true, true, true, true, true, true, false, false, false] rfl rfl (take_ofW HT_.out HW_.out (by kernel_rfl)) (fun _ _ _ h => h) (Or.inl ⟨by rfl, ?_⟩) hHeld ?_ ?_
                            rotate_left
                            · rintro w' ⟨s0, s1, s2, s3, s4, s5, s6, s7⟩
                              go_simp
                              with_reducible rfl
                            rotate_left
                            · simp only [Act.put, List.setIfInBounds_toArray, List.set_cons_zero, List.set_cons_succ, i64_w, i32_w]
                              rfl
                            refine pure_ (i := 25) (N := some 46) (v := ?_) (a' := ?_) #[true, true, true, true, true, true, true, true, true, true, true, true, true, true, true, true, true, true, true, true, true, true, true, true, true, true, false, false] rfl rfl (any_of HT_.out (by kernel_rfl)) (fun _ _ _ h => h) (Or.inl ⟨by rfl, ?_⟩) ?_ ?_
                            rotate_left
                            · intro w'
                              go_simp
                              with_reducible rfl
                            rotate_left
                            · simp only [Act.put, List.setIfInBounds_toArray, List.set_cons_zero, List.set_cons_succ, i64_w, i32_w]
                              rfl
                            refine pure_ (i := 26) (N := some 47) (v := ?_) (a' := ?_) #[true, true, true, true, true, true, true, true, true, true, true, true, true, true, true, true, true, true, true, true, true, true, true, true, true, true, true, false] rfl rfl (any_of HT_.out (by kernel_rfl)) (fun _ _ _ h => h) (Or.inl ⟨by rfl, ?_⟩) ?_ ?_
                            rotate_left
                            · intro w'
                              go_simp
                              with_reducible rfl
                            rotate_left
                            · simp only [Act.put, List.setIfInBounds_toArray, List.set_cons_zero, List.set_cons_succ, i64_w, i32_w]
                              rfl
                            refine pure_ (i := 27) (N := some 48) (v := ?_) (a' := ?_) #[true, true, true, true, true, true, true, true, true, true, true, true, true, true, true, true, true, true, true, true, true, true, true, true, true, true, true, true] rfl rfl (any_of HT_.out (by kernel_rfl)) (fun _ _ _ h => h) (Or.inl ⟨by rfl, ?_⟩) ?_ ?_
                            rotate_left
                            · intro w'
                              go_simp
                              with_reducible rfl
                            rotate_left
                            · simp only [Act.put, List.setIfInBounds_toArray, List.set_cons_zero, List.set_cons_succ, i64_w, i32_w]
                              rfl
                            refine done_ (done_of HT_.out (by kernel_rfl)) ?_
                            try go_wp2
                            go_meet
                            case rel => (try rw [← Nbq18.out]); exact ⟨_, ((((rd_T34 l0 x16_1).f1) != 2)), (by first | rfl | (simp; done) | (simp [*]; done)), H', ⟨by have := HK1.out; first | omega | exact Nat.le_refl _⟩, ⟨show MapAt (kkStr Tryd.prog 9 Tryd.underlying9) ekI64 _ gm195 x3_1 from by (with_reducible repeat (first | refine MapAt.alloc ?_ _ | refine MapAt.drewN ?_ _ | refine MapAt.drew ?_)); exact HM_3.out⟩, ⟨by (with_reducible repeat (first | refine blk_drewN ?_ _ | refine blk_drew ?_ | refine blk_alloc ?_ _)); exact BK197.out⟩, ⟨by repeat (first | (with_reducible first | exact HB.out | apply below_alloc | apply pw_below_drewN | apply below_drew1 | refine below_set ?_ GE197.out) | exact HB.out)⟩⟩
                          · replace c19 := Bool.eq_false_iff.mpr c19
                            subst c19
                            have H1 : (impl_TreeOk.j1 k1 l0 x3_1 l0 (l0.length : Int) x16_1 false ((rd_T34 l0 x16_1).f0) ((rd_T34 l0 x16_1).f1) ((rd_T34 l0 x16_1).f2) false) = some r := by rw [if_neg (show ¬ (false = true) by decide)] at H; exact H
                            clear H
                            have H := H1
                            clear H1
                            have H' := Aside0.mk H
                            clear H
                            try go_wp2
                            have n0_ : Aside0 (((((w9.setCell ⟨gb197, 0, none⟩ (.string ((rd_T34 l0 x16_1).f0))).setCell ⟨gb197, 1, none⟩ (.int .i64 ((rd_T34 l0 x16_1).f1))).setCell ⟨gb197, 2, none⟩ (.string ((rd_T34 l0 x16_1).f2))).setCell ⟨gb197, 3, none⟩ (.bool (false))).heap[gb197]? = some (.cells #[.string ((rd_T34 l0 x16_1).f0), .int .i64 ((rd_T34 l0 x16_1).f1), .string ((rd_T34 l0 x16_1).f2), .bool false] 34 (0, 0))) := ⟨by (with_reducible repeat (first | refine blk_drewN ?_ _ | refine blk_drew ?_ | refine blk_alloc ?_ _)); refine blk_put (cs := #[.string ((rd_T34 l0 x16_1).f0), .int .i64 ((rd_T34 l0 x16_1).f1), .string ((rd_T34 l0 x16_1).f2), .bool false]) ?_ 3 _ rfl; (with_reducible repeat (first | refine blk_drewN ?_ _ | refine blk_drew ?_ | refine blk_alloc ?_ _)); refine blk_put (cs := #[.string ((rd_T34 l0 x16_1).f0), .int .i64 ((rd_T34 l0 x16_1).f1), .string (⟨#[]⟩ : ByteArray), .bool false]) ?_ 2 _ rfl; (with_reducible repeat (first | refine blk_drewN ?_ _ | refine blk_drew ?_ | refine blk_alloc ?_ _)); refine blk_put (cs := #[.string ((rd_T34 l0 x16_1).f0), .int .i64 0, .string (⟨#[]⟩ : ByteArray), .bool false]) ?_ 1 _ rfl; (with_reducible repeat (first | refine blk_drewN ?_ _ | refine blk_drew ?_ | refine blk_alloc ?_ _)); refine blk_put (cs := #[.string (⟨#[]⟩ : ByteArray), .int .i64 0, .string (⟨#[]⟩ : ByteArray), .bool false]) ?_ 0 _ rfl; (with_reducible repeat (first | refine blk_drewN ?_ _ | refine blk_drew ?_ | refine blk_alloc ?_ _)); exact BK197.out⟩
                            have n1_ : Aside0 (MapAt (kkStr Tryd.prog 9 Tryd.underlying9) ekI64 ((((w9.setCell ⟨gb197, 0, none⟩ (.string ((rd_T34 l0 x16_1).f0))).setCell ⟨gb197, 1, none⟩ (.int .i64 ((rd_T34 l0 x16_1).f1))).setCell ⟨gb197, 2, none⟩ (.string ((rd_T34 l0 x16_1).f2))).setCell ⟨gb197, 3, none⟩ (.bool (false))) gm195 x3_1) := ⟨by (with_reducible repeat (first | refine MapAt.alloc ?_ _ | refine MapAt.drewN ?_ _ | refine MapAt.drew ?_ | refine MapAt.set_ ?_ _ _)); exact HM_3.out⟩
                            have n2_ : Aside0 (Below w.heap.size w ((((w9.setCell ⟨gb197, 0, none⟩ (.string ((rd_T34 l0 x16_1).f0))).setCell ⟨gb197, 1, none⟩ (.int .i64 ((rd_T34 l0 x16_1).f1))).setCell ⟨gb197, 2, none⟩ (.string ((rd_T34 l0 x16_1).f2))).setCell ⟨gb197, 3, none⟩ (.bool (false)))) := ⟨by repeat (first | (with_reducible first | exact HB.out | apply below_alloc | apply pw_below_drewN | apply below_drew1 | refine below_set ?_ GE197.out) | exact HB.out)⟩
                            (try rw [← Nbq18.out])
                            (try clear BK197)
                            (try clear HM_3)
                            (try clear HB)
                            generalize ((((w9.setCell ⟨gb197, 0, none⟩ (.string ((rd_T34 l0 x16_1).f0))).setCell ⟨gb197, 1, none⟩ (.int .i64 ((rd_T34 l0 x16_1).f1))).setCell ⟨gb197, 2, none⟩ (.string ((rd_T34 l0 x16_1).f2))).setCell ⟨gb197, 3, none⟩ (.bool (false))) = w23 at n0_ n1_ n2_ ⊢
                            have BK197 := n0_
                            have HM_3 := n1_
                            have HB := n2_
                            clear n0_ n1_ n2_
                            have n0_ := Aside0.mk (blk_drew BK197.out)
                            have n1_ := Aside0.mk (MapAt.drew HM_3.out)
                            have n2_ := Aside0.mk (below_drew1 HB.out)
                            clear BK197
                            clear HM_3
                            clear HB
                            have BK197 := n0_
                            have HM_3 := n1_
                            have HB := n2_
                            clear n0_ n1_ n2_
                            have p199 : 0 ≤ ((ji14) : Int) := of_decide_eq_true (by first | (with_reducible assumption) | assumption)
                            have q199 : (ji14) < (l0.length : Int) := of_decide_eq_true (by first | (with_reducible assumption) | assumption)
                            obtain ⟨ad199, e199, hx199_0, hx199_1, hx199_2, hx199_3⟩ := at_T34 HR0.out (ji14) p199 q199
                            have hw199_3 := hx199_3
                            (try rw [← Nbq18.out] at hw199_3)
                            have hw199_2 := hx199_2
                            (try rw [← Nbq18.out] at hw199_2)
                            have hw199_1 := hx199_1
                            (try rw [← Nbq18.out] at hw199_1)
                            have hw199_0 := hx199_0
                            (try rw [← Nbq18.out] at hw199_0)
                            (try rw [← Nbq18.out] at hx199_3)
                            obtain rfl : ad196 = ad199 := (by injection e199)
                            replace hx199_0 := (HB.out.cell (World.block_lt_of_cell? w _ hx199_0)).trans hx199_0
                            replace hx199_1 := (HB.out.cell (World.block_lt_of_cell? w _ hx199_1)).trans hx199_1
                            replace hx199_2 := (HB.out.cell (World.block_lt_of_cell? w _ hx199_2)).trans hx199_2
                            replace hx199_3 := (HB.out.cell (World.block_lt_of_cell? w _ hx199_3)).trans hx199_3
                            replace p199 := eq_true p199
                            replace q199 := eq_true q199
                            refine start_ (n := 28) (S := fun w' => w'.cell? ⟨gb197, 0, none⟩ = some (.string ((rd_T34 l0 x16_1).f0)) ∧ w'.cell? ⟨gb197, 1, none⟩ = some (.int .i64 ((rd_T34 l0 x16_1).f1)) ∧ w'.cell? ⟨gb197, 2, none⟩ = some (.string ((rd_T34 l0 x16_1).f2)) ∧ w'.cell? ⟨gb197, 3, none⟩ = some (.bool false) ∧ w'.cell? (ad196.add (((ji14)).toNat * 4)) = some (.string ((rd_T34 l0 (ji14)).f0)) ∧ w'.cell? ⟨(ad196.add (((ji14)).toNat * 4)).block, (ad196.add (((ji14)).toNat * 4)).off + 1, none⟩ = some (.int .i64 ((rd_T34 l0 (ji14)).f1)) ∧ w'.cell? ⟨(ad196.add (((ji14)).toNat * 4)).block, (ad196.add (((ji14)).toNat * 4)).off + 2, none⟩ = some (.string ((rd_T34 l0 (ji14)).f2)) ∧ w'.cell? ⟨(ad196.add (((ji14)).toNat * 4)).block, (ad196.add (((ji14)).toNat * 4)).off + 3, none⟩ = some (.bool ((rd_T34 l0 (ji14)).f3))) (ds := []) #[false, false, false, false, false, false, false, false, false, false, false, false, false, false, false, false, false, false, false, false, false, false, false, false, false, false, false, false] (by kernel_rfl) rfl rfl ⟨(blk_cell BK197.out 0).trans rfl, (blk_cell BK197.out 1).trans rfl, (blk_cell BK197.out 2).trans rfl, (blk_cell BK197.out 3).trans rfl, ((HB.out.cell (World.block_lt_of_cell? w _ hw199_0)).trans hw199_0), ((HB.out.cell (World.block_lt_of_cell? w _ hw199_1)).trans hw199_1), ((HB.out.cell (World.block_lt_of_cell? w _ hw199_2)).trans hw199_2), ((HB.out.cell (World.block_lt_of_cell? w _ hw199_3)).trans hw199_3)⟩ (fun hHeld => ?_); refine with_tabW impl_TreeOk.tab7 impl_TreeOk.bits7 (fun HT_ HW_ => ?_)
                            generalize w23.drew = w24 at BK197 HM_3 HB hx199_0 hx199_1 hx199_2 hx199_3 hHeld ⊢
                            refine pure_ (i := 0) (N := some 21) (v := ?_) (a' := ?_) #[true, false, false, false, false, false, false, false, false, false, false, false, false, false, false, false, false, false, false, false, false, false, false, false, false, false, false, false] rfl rfl (any_of HT_.out (by kernel_rfl)) (fun _ _ _ h => h) (Or.inl ⟨by rfl, ?_⟩) ?_ ?_
                            rotate_left
                            · intro w'
                              go_simp
                              with_reducible rfl
                            rotate_left
                            · simp only [Act.put, List.setIfInBounds_toArray, List.set_cons_zero, List.set_cons_succ, i64_w, i32_w]
                              rfl
                            refine take_ (i := 1) (N := some 22) (v := ?_) (a' := ?_) #[true, true, false, false, false, false, false, false, false, false, false, false, false, false, false, false, false, false, false, false, false, false, false, false, false, false, false, false] rfl rfl (take_ofW HT_.out HW_.out (by kernel_rfl)) (fun _ _ _ h => h) (Or.inl ⟨by rfl, ?_⟩) hHeld ?_ ?_
                            rotate_left
                            · rintro w' ⟨s0, s1, s2, s3, s4, s5, s6, s7⟩
                              go_simp
                              with_reducible rfl
                            rotate_left
                            · simp only [Act.put, List.setIfInBounds_toArray, List.set_cons_zero, List.set_cons_succ, i64_w, i32_w]
                              rfl
                            refine one_ (i := 2) (N := some 23) #[true, true, true, false, false, false, false, false, false, false, false, false, false, false, false, false, false, false, false, false, false, false, false, false, false, false, false, false] rfl rfl (one_of HT_.out (by kernel_rfl)) (by decide) (fun K hK => ?_)
                            refine goes_ Tryd.func56 (by kernel_rfl) rfl #[.string ((rd_T34 l0 x16_1).f0)] (by rfl) rfl rfl (by (try simp only [List.map_toArray, List.map_cons, List.map_nil]); first | done | rfl | (simp only [List.length_drop, List.length_take]; rfl)) ?_
                            with_reducible refine (impl_pathOk.calls k1 ((rd_T34 l0 x16_1).f0) true _ ?side1 A11.out).mono ?_
                            (case side1 => refine EnvW.below HE.out ?_; repeat (first | (with_reducible first | exact HB.out | apply below_alloc | apply pw_below_drewN | apply below_drew1 | refine below_set ?_ GE197.out) | exact HB.out))
                            rintro e w25 ⟨rfl, hb⟩
                            refine ⟨_, rfl, ?_⟩
                            have n0_ := Aside0.mk (MapAt.below (show MapAt (kkStr Tryd.prog 9 Tryd.underlying9) ekI64 _ gm195 x3_1 from by (with_reducible repeat (first | refine MapAt.alloc ?_ _ | refine MapAt.drewN ?_ _ | refine MapAt.drew ?_)); exact HM_3.out) hb)
                            have n1_ := Aside0.mk (blk_below (g := gb197) (o := .cells #[.string ((rd_T34 l0 x16_1).f0), .int .i64 ((rd_T34 l0 x16_1).f1), .string ((rd_T34 l0 x16_1).f2), .bool false] 34 (0, 0)) (by (with_reducible repeat (first | refine blk_drewN ?_ _ | refine blk_drew ?_ | refine blk_alloc ?_ _)); exact BK197.out) hb)
                            have n2_ := Aside0.mk (below_step (by repeat (first | (with_reducible first | exact HB.out | apply below_alloc | apply pw_below_drewN | apply below_drew1 | refine below_set ?_ GE197.out) | exact HB.out)) hb)
                            clear HM_3
                            clear BK197
                            clear HB
                            have HM_3 := n0_
                            have BK197 := n1_
                            have HB := n2_
                            clear n0_ n1_ n2_
                            (try clear hb)
                            (try clear hb2)
                            (try clear hk)
                            (try clear hi)
                            refine hK.out _ _ ⟨(blk_cell BK197.out 0).trans rfl, (blk_cell BK197.out 1).trans rfl, (blk_cell BK197.out 2).trans rfl, (blk_cell BK197.out 3).trans rfl, ((HB.out.cell (World.block_lt_of_cell? w _ hw199_0)).trans hw199_0), ((HB.out.cell (World.block_lt_of_cell? w _ hw199_1)).trans hw199_1), ((HB.out.cell (World.block_lt_of_cell? w _ hw199_2)).trans hw199_2), ((HB.out.cell (World.block_lt_of_cell? w _ hw199_3)).trans hw199_3)⟩ (fun hHeld => ?_)
                            clear hK K
                            refine norm_ (a' := ?_) ?_ ?_
                            rotate_left
                            · show Act.put _ (some 23) _ = _
                              simp only [Act.put, List.setIfInBounds_toArray, List.set_cons_zero, List.set_cons_succ, i64_w, i32_w]
                              rfl
                            refine pure_ (i := 3) (N := some 24) (v := ?_) (a' := ?_) #[true, true, true, true, false, false, false, false, false, false, false, false, false, false, false, false, false, false, false, false, false, false, false, false, false, false, false, false] rfl rfl (any_of HT_.out (by kernel_rfl)) (fun _ _ _ h => h) (Or.inl ⟨by rfl, ?_⟩) ?_ ?_
                            rotate_left
                            · intro w'
                              go_simp
                              with_reducible rfl
                            rotate_left
                            · simp only [Act.put, List.setIfInBounds_toArray, List.set_cons_zero, List.set_cons_succ, i64_w, i32_w]
                              rfl
                            refine pure_ (i := 4) (N := some 25) (v := ?_) (a' := ?_) #[true, true, true, true, true, false, false, false, false, false, false, false, false, false, false, false, false, false, false, false, false, false, false, false, false, false, false, false] rfl rfl (any_of HT_.out (by kernel_rfl)) (fun _ _ _ h => h) (Or.inl ⟨by rfl, ?_⟩) ?_ ?_
                            rotate_left
                            · intro w'
                              go_simp
                              with_reducible rfl
                            rotate_left
                            · simp only [Act.put, List.setIfInBounds_toArray, List.set_cons_zero, List.set_cons_succ, i64_w, i32_w]
                              rfl
                            refine pure_ (i := 5) (N := some 26) (v := ?_) (a' := ?_) #[true, true, true, true, true, true, false, false, false, false, false, false, false, false, false, false, false, false, false, false, false, false, false, false, false, false, false, false] rfl rfl (any_of HT_.out (by kernel_rfl)) (fun _ _ _ h => h) (Or.inl ⟨by rfl, ?_⟩) ?_ ?_
                            rotate_left
                            · intro w'
                              go_simp
                              with_reducible rfl
                            rotate_left
                            · simp only [Act.put, List.setIfInBounds_toArray, List.set_cons_zero, List.set_cons_succ, i64_w, i32_w]
                              rfl
                            refine pure_ (i := 6) (N := some 27) (v := ?_) (a' := ?_) #[true, true, true, true, true, true, true, false, false, false, false, false, false, false, false, false, false, false, false, false, false, false, false, false, false, false, false, false] rfl rfl (any_of HT_.out (by kernel_rfl)) (fun _ _ _ h => h) (Or.inl ⟨by rfl, ?_⟩) ?_ ?_
                            rotate_left
                            · intro w'
                              go_simp
                              with_reducible rfl
                            rotate_left
                            · simp only [Act.put, List.setIfInBounds_toArray, List.set_cons_zero, List.set_cons_succ, i64_w, i32_w]
                              rfl
                            refine pure_ (i := 7) (N := some 28) (v := ?_) (a' := ?_) #[true, true, true, true, true, true, true, true, false, false, false, false, false, false, false, false, false, false, false, false, false, false, false, false, false, false, false, false] rfl rfl (any_of HT_.out (by kernel_rfl)) (fun _ _ _ h => h) (Or.inl ⟨by rfl, ?_⟩) ?_ ?_
                            rotate_left
                            · intro w'
                              go_simp
                              with_reducible rfl
                            rotate_left
                            · simp only [Act.put, List.setIfInBounds_toArray, List.set_cons_zero, List.set_cons_succ, i64_w, i32_w]
                              rfl
                            refine pure_ (i := 8) (N := some 29) (v := ?_) (a' := ?_) #[true, true, true, true, true, true, true, true, true, false, false, false, false, false, false, false, false, false, false, false, false, false, false, false, false, false, false, false] rfl rfl (any_of HT_.out (by kernel_rfl)) (fun _ _ _ h => h) (Or.inl ⟨by rfl, ?_⟩) ?_ ?_
                            rotate_left
                            · intro w'
                              go_simp
                              with_reducible rfl
                            rotate_left
                            · simp only [Act.put, List.setIfInBounds_toArray, List.set_cons_zero, List.set_cons_succ, i64_w, i32_w]
                              rfl
                            refine pure_ (i := 10) (N := some 31) (v := ?_) (a' := ?_) #[true, true, true, true, true, true, true, true, true, false, true, false, false, false, false, false, false, false, false, false, false, false, false, false, false, false, false, false] rfl rfl (any_of HT_.out (by kernel_rfl)) (fun _ _ _ h => h) (Or.inl ⟨by rfl, ?_⟩) ?_ ?_
                            rotate_left
                            · intro w'
                              go_simp
                              with_reducible rfl
                            rotate_left
                            · simp only [Act.put, List.setIfInBounds_toArray, List.set_cons_zero, List.set_cons_succ, i64_w, i32_w]
                              rfl
                            refine pure_ (i := 11) (N := some 32) (v := ?_) (a' := ?_) #[true, true, true, true, true, true, true, true, true, false, true, true, false, false, false, false, false, false, false, false, false, false, false, false, false, false, false, false] rfl rfl (any_of HT_.out (by kernel_rfl)) (fun _ _ _ h => h) (Or.inl ⟨by rfl, ?_⟩) ?_ ?_
                            rotate_left
                            · intro w'
                              go_simp
                              with_reducible rfl
                            rotate_left
                            · simp only [Act.put, List.setIfInBounds_toArray, List.set_cons_zero, List.set_cons_succ, i64_w, i32_w]
                              rfl
                            refine pure_ (i := 12) (N := some 33) (v := ?_) (a' := ?_) #[true, true, true, true, true, true, true, true, true, false, true, true, true, false, false, false, false, false, false, false, false, false, false, false, false, false, false, false] rfl rfl (any_of HT_.out (by kernel_rfl)) (fun _ _ _ h => h) (Or.inl ⟨by rfl, ?_⟩) ?_ ?_
                            rotate_left
                            · intro w'
                              go_simp
                              with_reducible rfl
                            rotate_left
                            · simp only [Act.put, List.setIfInBounds_toArray, List.set_cons_zero, List.set_cons_succ, i64_w, i32_w]
                              rfl
                            refine pure_ (i := 13) (N := some 34) (v := ?_) (a' := ?_) #[true, true, true, true, true, true, true, true, true, false, true, true, true, true, false, false, false, false, false, false, false, false, false, false, false, false, false, false] rfl rfl (any_of HT_.out (by kernel_rfl)) (fun _ _ _ h => h) (Or.inl ⟨by rfl, ?_⟩) ?_ ?_
                            rotate_left
                            · intro w'
                              go_simp
                              with_reducible rfl
                            rotate_left
                            · simp only [Act.put, List.setIfInBounds_toArray, List.set_cons_zero, List.set_cons_succ, i64_w, i32_w]
                              rfl
                            refine pure_ (i := 14) (N := some 35) (v := ?_) (a' := ?_) #[true, true, true, true, true, true, true, true, true, false, true, true, true, true, true, false, false, false, false, false, false, false, false, false, false, false, false, false] rfl rfl (any_of HT_.out (by kernel_rfl)) (fun _ _ _ h => h) (Or.inl ⟨by rfl, ?_⟩) ?_ ?_
                            rotate_left
                            · intro w'
                              go_simp
                              with_reducible rfl
                            rotate_left
                            · simp only [Act.put, List.setIfInBounds_toArray, List.set_cons_zero, List.set_cons_succ, i64_w, i32_w]
                              rfl
                            refine take_ (i := 9) (N := some 30) (v := ?_) (a' := ?_) #[true, true, true, true, true, true, true, true, true, true, true, true, true, true, true, false, false, false, false, false, false, false, false, false, false, false, false, false] rfl rfl (take_ofW HT_.out HW_.out (by kernel_rfl)) (fun _ _ _ h => h) (Or.inl ⟨by rfl, ?_⟩) hHeld ?_ ?_
                            rotate_left
                            · rintro w' ⟨s0, s1, s2, s3, s4, s5, s6, s7⟩
                              go_simp
                              with_reducible rfl
                            rotate_left
                            · simp only [Act.put, List.setIfInBounds_toArray, List.set_cons_zero, List.set_cons_succ, i64_w, i32_w]
                              rfl
                            refine take_ (i := 15) (N := some 36) (v := ?_) (a' := ?_) #[true, true, true, true, true, true, true, true, true, true, true, true, true, true, true, true, false, false, false, false, false, false, false, false, false, false, false, false] rfl rfl (take_ofW HT_.out HW_.out (by kernel_rfl)) (fun _ _ _ h => h) (Or.inl ⟨by rfl, ?_⟩) hHeld ?_ ?_
                            rotate_left
                            · rintro w' ⟨s0, s1, s2, s3, s4, s5, s6, s7⟩
                              go_simp
                              with_reducible rfl
                            rotate_left
                            · simp only [Act.put, List.setIfInBounds_toArray, List.set_cons_zero, List.set_cons_succ, i64_w, i32_w]
                              rfl
                            refine pure_ (i := 16) (N := some 37) (v := ?_) (a' := ?_) #[true, true, true, true, true, true, true, true, true, true, true, true, true, true, true, true, true, false, false, false, false, false, false, false, false, false, false, false] rfl rfl (any_of HT_.out (by kernel_rfl)) (fun _ _ _ h => h) (Or.inl ⟨by rfl, ?_⟩) ?_ ?_
                            rotate_left
                            · intro w'
                              go_simp
                              with_reducible rfl
                            rotate_left
                            · simp only [Act.put, List.setIfInBounds_toArray, List.set_cons_zero, List.set_cons_succ, i64_w, i32_w]
                              rfl
                            refine pure_ (i := 17) (N := some 38) (v := ?_) (a' := ?_) #[true, true, true, true, true, true, true, true, true, true, true, true, true, true, true, true, true, true, false, false, false, false, false, false, false, false, false, false] rfl rfl (any_of HT_.out (by kernel_rfl)) (fun _ _ _ h => h) (Or.inl ⟨by rfl, ?_⟩) ?_ ?_
                            rotate_left
                            · intro w'
                              go_simp
                              with_reducible rfl
                            rotate_left
                            · simp only [Act.put, List.setIfInBounds_toArray, List.set_cons_zero, List.set_cons_succ, i64_w, i32_w]
                              rfl
                            refine pure_ (i := 18) (N := some 39) (v := ?_) (a' := ?_) #[true, true, true, true, true, true, true, true, true, true, true, true, true, true, true, true, true, true, true, false, false, false, false, false, false, false, false, false] rfl rfl (any_of HT_.out (by kernel_rfl)) (fun _ _ _ h => h) (Or.inl ⟨by rfl, ?_⟩) ?_ ?_
                            rotate_left
                            · intro w'
                              go_simp
                              with_reducible rfl
                            rotate_left
                            · simp only [Act.put, List.setIfInBounds_toArray, List.set_cons_zero, List.set_cons_succ, i64_w, i32_w]
                              rfl
                            refine pure_ (i := 19) (N := some 40) (v := ?_) (a' := ?_) #[true, true, true, true, true, true, true, true, true, true, true, true, true, true, true, true, true, true, true, true, false, false, false, false, false, false, false, false] rfl rfl (any_of HT_.out (by kernel_rfl)) (fun _ _ _ h => h) (Or.inl ⟨by rfl, ?_⟩) ?_ ?_
                            rotate_left
                            · intro w'
                              go_simp
                              with_reducible rfl
                            rotate_left
                            · simp only [Act.put, List.setIfInBounds_toArray, List.set_cons_zero, List.set_cons_succ, i64_w, i32_w]
                              rfl
                            refine pure_ (i := 20) (N := some 41) (v := ?_) (a' := ?_) #[true, true, true, true, true, true, true, true, true, true, true, true, true, true, true, true, true, true, true, true, true, false, false, false, false, false, false, false] rfl rfl (any_of HT_.out (by kernel_rfl)) (fun _ _ _ h => h) (Or.inl ⟨by rfl, ?_⟩) ?_ ?_
                            rotate_left
                            · intro w'
                              go_simp
                              with_reducible rfl
                            rotate_left
                            · simp only [Act.put, List.setIfInBounds_toArray, List.set_cons_zero, List.set_cons_succ, i64_w, i32_w]
                              rfl
                            refine take_ (i := 21) (N := some 42) (v := ?_) (a' := ?_) #[true, true, true, true, true, true, true, true, true, true, true, true, true, true, true, true, true, true, true, true, true, true, false, false, false, false, false, false] rfl rfl (take_ofW HT_.out HW_.out (by kernel_rfl)) (fun _ _ _ h => h) (Or.inl ⟨by rfl, ?_⟩) hHeld ?_ ?_
                            rotate_left
                            · rintro w' ⟨s0, s1, s2, s3, s4, s5, s6, s7⟩
                              go_simp
                              with_reducible rfl
                            rotate_left
                            · simp only [Act.put, List.setIfInBounds_toArray, List.set_cons_zero, List.set_cons_succ, i64_w, i32_w]
                              rfl
                            refine pure_ (i := 22) (N := some 43) (v := ?_) (a' := ?_) #[true, true, true, true, true, true, true, true, true, true, true, true, true, true, true, true, true, true, true, true, true, true, true, false, false, false, false, false] rfl rfl (any_of HT_.out (by kernel_rfl)) (fun _ _ _ h => h) (Or.inl ⟨by rfl, ?_⟩) ?_ ?_
                            rotate_left
                            · intro w'
                              go_simp
                              with_reducible rfl
                            rotate_left
                            · simp only [Act.put, List.setIfInBounds_toArray, List.set_cons_zero, List.set_cons_succ, i64_w, i32_w]
                              rfl
                            refine pure_ (i := 23) (N := some 44) (v := undef) (a' := ?_) #[true, true, true, true, true, true, true, true, true, true, true, true, true, true, true, true, true, true, true, true, true, true, true, true, false, false, false, false] rfl rfl (any_of HT_.out (by kernel_rfl)) (fun _ _ _ h => h) (Or.inr ⟨by rfl, rfl⟩) ?_ ?_
                            rotate_left
                            · simp only [Act.put, List.setIfInBounds_toArray, List.set_cons_zero, List.set_cons_succ, i64_w, i32_w]
                              rfl
                            refine pure_ (i := 24) (N := some 45) (v := undef) (a' := ?_) #[true, true, true, true, true, true, true, true, true, true, true, true, true, true, true, true, true, true, true, true, true, true, true, true, true, false, false, false] rfl rfl (any_of HT_.out (by kernel_rfl)) (fun _ _ _ h => h) (Or.inr ⟨by rfl, rfl⟩) ?_ ?_
                            rotate_left
                            · simp only [Act.put, List.setIfInBounds_toArray, List.set_cons_zero, List.set_cons_succ, i64_w, i32_w]
                              rfl
                            refine pure_ (i := 25) (N := some 46) (v := undef) (a' := ?_) #[true, true, true, true, true, true, true, true, true, true, true, true, true, true, true, true, true, true, true, true, true, true, true, true, true, true, false, false] rfl rfl (any_of HT_.out (by kernel_rfl)) (fun _ _ _ h => h) (Or.inr ⟨by rfl, rfl⟩) ?_ ?_
                            rotate_left
                            · simp only [Act.put, List.setIfInBounds_toArray, List.set_cons_zero, List.set_cons_succ, i64_w, i32_w]
                              rfl
                            refine pure_ (i := 26) (N := some 47) (v := ?_) (a' := ?_) #[true, true, true, true, true, true, true, true, true, true, true, true, true, true, true, true, true, true, true, true, true, true, true, true, true, true, true, false] rfl rfl (any_of HT_.out (by kernel_rfl)) (fun _ _ _ h => h) (Or.inl ⟨by rfl, ?_⟩) ?_ ?_
                            rotate_left
                            · intro w'
                              go_simp
                              with_reducible rfl
                            rotate_left
                            · simp only [Act.put, List.setIfInBounds_toArray, List.set_cons_zero, List.set_cons_succ, i64_w, i32_w]
                              rfl
                            refine pure_ (i := 27) (N := some 48) (v := ?_) (a' := ?_) #[true, true, true, true, true, true, true, true, true, true, true, true, true, true, true, true, true, true, true, true, true, true, true, true, true, true, true, true] rfl rfl (any_of HT_.out (by kernel_rfl)) (fun _ _ _ h => h) (Or.inl ⟨by rfl, ?_⟩) ?_ ?_
                            rotate_left
                            · intro w'
                              go_simp
                              with_reducible rfl
                            rotate_left
                            · simp only [Act.put, List.setIfInBounds_toArray, List.set_cons_zero, List.set_cons_succ, i64_w, i32_w]
                              rfl
                            refine done_ (done_of HT_.out (by kernel_rfl)) ?_
                            try go_wp2
                            go_meet
                            case rel => (try rw [← Nbq18.out]); exact ⟨_, (false), (by first | rfl | (simp; done) | (simp [*]; done)), H', ⟨by have := HK1.out; first | omega | exact Nat.le_refl _⟩, ⟨show MapAt (kkStr Tryd.prog 9 Tryd.underlying9) ekI64 _ gm195 x3_1 from by (with_reducible repeat (first | refine MapAt.alloc ?_ _ | refine MapAt.drewN ?_ _ | refine MapAt.drew ?_)); exact HM_3.out⟩, ⟨by (with_reducible repeat (first | refine blk_drewN ?_ _ | refine blk_drew ?_ | refine blk_alloc ?_ _)); exact BK197.out⟩, ⟨by repeat (first | (with_reducible first | exact HB.out | apply below_alloc | apply pw_below_drewN | apply below_drew1 | refine below_set ?_ GE197.out) | exact HB.out)⟩⟩
                        · rw [if_neg c17] at H
                          have c17b0 : (Op.bytesLess (((rd_T34 l0 (ji14)).f0).toList) (((rd_T34 l0 x16_1).f0).toList)) = false := by simpa using c17
                          clear c17
                          have H' := Aside0.mk H
                          clear H
                          try go_wp2
                          have n0_ : Aside0 (((((w9.setCell ⟨gb197, 0, none⟩ (.string ((rd_T34 l0 x16_1).f0))).setCell ⟨gb197, 1, none⟩ (.int .i64 ((rd_T34 l0 x16_1).f1))).setCell ⟨gb197, 2, none⟩ (.string ((rd_T34 l0 x16_1).f2))).setCell ⟨gb197, 3, none⟩ (.bool ((rd_T34 l0 x16_1).f3))).heap[gb197]? = some (.cells #[.string ((rd_T34 l0 x16_1).f0), .int .i64 ((rd_T34 l0 x16_1).f1), .string ((rd_T34 l0 x16_1).f2), .bool ((rd_T34 l0 x16_1).f3)] 34 (0, 0))) := ⟨by (with_reducible repeat (first | refine blk_drewN ?_ _ | refine blk_drew ?_ | refine blk_alloc ?_ _)); refine blk_put (cs := #[.string ((rd_T34 l0 x16_1).f0), .int .i64 ((rd_T34 l0 x16_1).f1), .string ((rd_T34 l0 x16_1).f2), .bool false]) ?_ 3 _ rfl; (with_reducible repeat (first | refine blk_drewN ?_ _ | refine blk_drew ?_ | refine blk_alloc ?_ _)); refine blk_put (cs := #[.string ((rd_T34 l0 x16_1).f0), .int .i64 ((rd_T34 l0 x16_1).f1), .string (⟨#[]⟩ : ByteArray), .bool false]) ?_ 2 _ rfl; (with_reducible repeat (first | refine blk_drewN ?_ _ | refine blk_drew ?_ | refine blk_alloc ?_ _)); refine blk_put (cs := #[.string ((rd_T34 l0 x16_1).f0), .int .i64 0, .string (⟨#[]⟩ : ByteArray), .bool false]) ?_ 1 _ rfl; (with_reducible repeat (first | refine blk_drewN ?_ _ | refine blk_drew ?_ | refine blk_alloc ?_ _)); refine blk_put (cs := #[.string (⟨#[]⟩ : ByteArray), .int .i64 0, .string (⟨#[]⟩ : ByteArray), .bool false]) ?_ 0 _ rfl; (with_reducible repeat (first | refine blk_drewN ?_ _ | refine blk_drew ?_ | refine blk_alloc ?_ _)); exact BK197.out⟩
                          have n1_ : Aside0 (MapAt (kkStr Tryd.prog 9 Tryd.underlying9) ekI64 ((((w9.setCell ⟨gb197, 0, none⟩ (.string ((rd_T34 l0 x16_1).f0))).setCell ⟨gb197, 1, none⟩ (.int .i64 ((rd_T34 l0 x16_1).f1))).setCell ⟨gb197, 2, none⟩ (.string ((rd_T34 l0 x16_1).f2))).setCell ⟨gb197, 3, none⟩ (.bool ((rd_T34 l0 x16_1).f3))) gm195 x3_1) := ⟨by (with_reducible repeat (first | refine MapAt.alloc ?_ _ | refine MapAt.drewN ?_ _ | refine MapAt.drew ?_ | refine MapAt.set_ ?_ _ _)); exact HM_3.out⟩
                          have n2_ : Aside0 (Below w.heap.size w ((((w9.setCell ⟨gb197, 0, none⟩ (.string ((rd_T34 l0 x16_1).f0))).setCell ⟨gb197, 1, none⟩ (.int .i64 ((rd_T34 l0 x16_1).f1))).setCell ⟨gb197, 2, none⟩ (.string ((rd_T34 l0 x16_1).f2))).setCell ⟨gb197, 3, none⟩ (.bool ((rd_T34 l0 x16_1).f3)))) := ⟨by repeat (first | (with_reducible first | exact HB.out | apply below_alloc | apply pw_below_drewN | apply below_drew1 | refine below_set ?_ GE197.out) | exact HB.out)⟩
                          (try clear BK197)
                          (try clear HM_3)
                          (try clear HB)
                          generalize ((((w9.setCell ⟨gb197, 0, none⟩ (.string ((rd_T34 l0 x16_1).f0))).setCell ⟨gb197, 1, none⟩ (.int .i64 ((rd_T34 l0 x16_1).f1))).setCell ⟨gb197, 2, none⟩ (.string ((rd_T34 l0 x16_1).f2))).setCell ⟨gb197, 3, none⟩ (.bool ((rd_T34 l0 x16_1).f3))) = w26 at n0_ n1_ n2_ ⊢
                          have BK197 := n0_
                          have HM_3 := n1_
                          have HB := n2_
                          clear n0_ n1_ n2_
                          have n0_ := Aside0.mk (blk_drew BK197.out)
                          have n1_ := Aside0.mk (MapAt.drew HM_3.out)
                          have n2_ := Aside0.mk (below_drew1 HB.out)
                          clear BK197
                          clear HM_3
                          clear HB
                          have BK197 := n0_
                          have HM_3 := n1_
                          have HB := n2_
                          clear n0_ n1_ n2_
                          have p199 : 0 ≤ ((ji14) : Int) := of_decide_eq_true (by first | (with_reducible assumption) | assumption)
                          have q199 : (ji14) < (l0.length : Int) := of_decide_eq_true (by first | (with_reducible assumption) | assumption)
                          obtain ⟨ad199, e199, hx199_0, hx199_1, hx199_2, hx199_3⟩ := at_T34 HR0.out (ji14) p199 q199
                          have hw199_3 := hx199_3
                          have hw199_2 := hx199_2
                          have hw199_1 := hx199_1
                          have hw199_0 := hx199_0
                          obtain rfl : ad196 = ad199 := (by injection e199)
                          replace hx199_0 := (HB.out.cell (World.block_lt_of_cell? w _ hx199_0)).trans hx199_0
                          replace hx199_1 := (HB.out.cell (World.block_lt_of_cell? w _ hx199_1)).trans hx199_1
                          replace hx199_2 := (HB.out.cell (World.block_lt_of_cell? w _ hx199_2)).trans hx199_2
                          replace hx199_3 := (HB.out.cell (World.block_lt_of_cell? w _ hx199_3)).trans hx199_3
                          replace p199 := eq_true p199
                          replace q199 := eq_true q199
                          refine start_ (n := 28) (S := fun w' => w'.cell? ⟨gb197, 0, none⟩ = some (.string ((rd_T34 l0 x16_1).f0)) ∧ w'.cell? ⟨gb197, 1, none⟩ = some (.int .i64 ((rd_T34 l0 x16_1).f1)) ∧ w'.cell? ⟨gb197, 2, none⟩ = some (.string ((rd_T34 l0 x16_1).f2)) ∧ w'.cell? ⟨gb197, 3, none⟩ = some (.bool ((rd_T34 l0 x16_1).f3)) ∧ w'.cell? (ad196.add (((ji14)).toNat * 4)) = some (.string ((rd_T34 l0 (ji14)).f0)) ∧ w'.cell? ⟨(ad196.add (((ji14)).toNat * 4)).block, (ad196.add (((ji14)).toNat * 4)).off + 1, none⟩ = some (.int .i64 ((rd_T34 l0 (ji14)).f1)) ∧ w'.cell? ⟨(ad196.add (((ji14)).toNat * 4)).block, (ad196.add (((ji14)).toNat * 4)).off + 2, none⟩ = some (.string ((rd_T34 l0 (ji14)).f2)) ∧ w'.cell? ⟨(ad196.add (((ji14)).toNat * 4)).block, (ad196.add (((ji14)).toNat * 4)).off + 3, none⟩ = some (.bool ((rd_T34 l0 (ji14)).f3))) (ds := []) #[false, false, false, false, false, false, false, false, false, false, false, false, false, false, false, false, false, false, false, false, false, false, false, false, false, false, false, false] (by kernel_rfl) rfl rfl ⟨(blk_cell BK197.out 0).trans rfl, (blk_cell BK197.out 1).trans rfl, (blk_cell BK197.out 2).trans rfl, (blk_cell BK197.out 3).trans rfl, ((HB.out.cell (World.block_lt_of_cell? w _ hw199_0)).trans hw199_0), ((HB.out.cell (World.block_lt_of_cell? w _ hw199_1)).trans hw199_1), ((HB.out.cell (World.block_lt_of_cell? w _ hw199_2)).trans hw199_2), ((HB.out.cell (World.block_lt_of_cell? w _ hw199_3)).trans hw199_3)⟩ (fun hHeld => ?_); refine with_tabW impl_TreeOk.tab7 impl_TreeOk.bits7 (fun HT_ HW_ => ?_)
                          generalize w26.drew = w27 at BK197 HM_3 HB hx199_0 hx199_1 hx199_2 hx199_3 hHeld ⊢
                          refine pure_ (i := 0) (N := some 21) (v := ?_) (a' := ?_) #[true, false, false, false, false, false, false, false, false, false, false, false, false, false, false, false, false, false, false, false, false, false, false, false, false, false, false, false] rfl rfl (any_of HT_.out (by kernel_rfl)) (fun _ _ _ h => h) (Or.inl ⟨by rfl, ?_⟩) ?_ ?_
                          rotate_left
                          · intro w'
                            go_simp
                            with_reducible rfl
                          rotate_left
                          · simp only [Act.put, List.setIfInBounds_toArray, List.set_cons_zero, List.set_cons_succ, i64_w, i32_w]
                            rfl
                          refine take_ (i := 1) (N := some 22) (v := ?_) (a' := ?_) #[true, true, false, false, false, false, false, false, false, false, false, false, false, false, false, false, false, false, false, false, false, false, false, false, false, false, false, false] rfl rfl (take_ofW HT_.out HW_.out (by kernel_rfl)) (fun _ _ _ h => h) (Or.inl ⟨by rfl, ?_⟩) hHeld ?_ ?_
                          rotate_left
                          · rintro w' ⟨s0, s1, s2, s3, s4, s5, s6, s7⟩
                            go_simp
                            with_reducible rfl
                          rotate_left
                          · simp only [Act.put, List.setIfInBounds_toArray, List.set_cons_zero, List.set_cons_succ, i64_w, i32_w]
                            rfl
                          refine one_ (i := 2) (N := some 23) #[true, true, true, false, false, false, false, false, false, false, false, false, false, false, false, false, false, false, false, false, false, false, false, false, false, false, false, false] rfl rfl (one_of HT_.out (by kernel_rfl)) (by decide) (fun K hK => ?_)
                          refine goes_ Tryd.func56 (by kernel_rfl) rfl #[.string ((rd_T34 l0 x16_1).f0)] (by rfl) rfl rfl (by (try simp only [List.map_toArray, List.map_cons, List.map_nil]); first | done | rfl | (simp only [List.length_drop, List.length_take]; rfl)) ?_
                          with_reducible refine (impl_pathOk.calls k1 ((rd_T34 l0 x16_1).f0) true _ ?side1 A11.out).mono ?_
                          (case side1 => refine EnvW.below HE.out ?_; repeat (first | (with_reducible first | exact HB.out | apply below_alloc | apply pw_below_drewN | apply below_drew1 | refine below_set ?_ GE197.out) | exact HB.out))
                          rintro e w28 ⟨rfl, hb⟩
                          refine ⟨_, rfl, ?_⟩
                          have n0_ := Aside0.mk (MapAt.below (show MapAt (kkStr Tryd.prog 9 Tryd.underlying9) ekI64 _ gm195 x3_1 from by (with_reducible repeat (first | refine MapAt.alloc ?_ _ | refine MapAt.drewN ?_ _ | refine MapAt.drew ?_)); exact HM_3.out) hb)
                          have n1_ := Aside0.mk (blk_below (g := gb197) (o := .cells #[.string ((rd_T34 l0 x16_1).f0), .int .i64 ((rd_T34 l0 x16_1).f1), .string ((rd_T34 l0 x16_1).f2), .bool ((rd_T34 l0 x16_1).f3)] 34 (0, 0)) (by (with_reducible repeat (first | refine blk_drewN ?_ _ | refine blk_drew ?_ | refine blk_alloc ?_ _)); exact BK197.out) hb)
                          have n2_ := Aside0.mk (below_step (by repeat (first | (with_reducible first | exact HB.out | apply below_alloc | apply pw_below_drewN | apply below_drew1 | refine below_set ?_ GE197.out) | exact HB.out)) hb)
                          clear HM_3
                          clear BK197
                          clear HB
                          have HM_3 := n0_
                          have BK197 := n1_
                          have HB := n2_
                          clear n0_ n1_ n2_
                          (try clear hb)
                          (try clear hb2)
                          (try clear hk)
                          (try clear hi)
                          refine hK.out _ _ ⟨(blk_cell BK197.out 0).trans rfl, (blk_cell BK197.out 1).trans rfl, (blk_cell BK197.out 2).trans rfl, (blk_cell BK197.out 3).trans rfl, ((HB.out.cell (World.block_lt_of_cell? w _ hw199_0)).trans hw199_0), ((HB.out.cell (World.block_lt_of_cell? w _ hw199_1)).trans hw199_1), ((HB.out.cell (World.block_lt_of_cell? w _ hw199_2)).trans hw199_2), ((HB.out.cell (World.block_lt_of_cell? w _ hw199_3)).trans hw199_3)⟩ (fun hHeld => ?_)
                          clear hK K
                          refine norm_ (a' := ?_) ?_ ?_
                          rotate_left
                          · show Act.put _ (some 23) _ = _
                            simp only [Act.put, List.setIfInBounds_toArray, List.set_cons_zero, List.set_cons_succ, i64_w, i32_w]
                            rfl
                          refine pure_ (i := 3) (N := some 24) (v := ?_) (a' := ?_) #[true, true, true, true, false, false, false, false, false, false, false, false, false, false, false, false, false, false, false, false, false, false, false, false, false, false, false, false] rfl rfl (any_of HT_.out (by kernel_rfl)) (fun _ _ _ h => h) (Or.inl ⟨by rfl, ?_⟩) ?_ ?_
                          rotate_left
                          · intro w'
                            go_simp
                            with_reducible rfl
                          rotate_left
                          · simp only [Act.put, List.setIfInBounds_toArray, List.set_cons_zero, List.set_cons_succ, i64_w, i32_w]
                            rfl
                          refine pure_ (i := 4) (N := some 25) (v := ?_) (a' := ?_) #[true, true, true, true, true, false, false, false, false, false, false, false, false, false, false, false, false, false, false, false, false, false, false, false, false, false, false, false] rfl rfl (any_of HT_.out (by kernel_rfl)) (fun _ _ _ h => h) (Or.inl ⟨by rfl, ?_⟩) ?_ ?_
                          rotate_left
                          · intro w'
                            go_simp
                            with_reducible rfl
                          rotate_left
                          · simp only [Act.put, List.setIfInBounds_toArray, List.set_cons_zero, List.set_cons_succ, i64_w, i32_w]
                            rfl
                          refine pure_ (i := 5) (N := some 26) (v := ?_) (a' := ?_) #[true, true, true, true, true, true, false, false, false, false, false, false, false, false, false, false, false, false, false, false, false, false, false, false, false, false, false, false] rfl rfl (any_of HT_.out (by kernel_rfl)) (fun _ _ _ h => h) (Or.inl ⟨by rfl, ?_⟩) ?_ ?_
                          rotate_left
                          · intro w'
                            go_simp
                            with_reducible rfl
                          rotate_left
                          · simp only [Act.put, List.setIfInBounds_toArray, List.set_cons_zero, List.set_cons_succ, i64_w, i32_w]
                            rfl
                          refine pure_ (i := 6) (N := some 27) (v := ?_) (a' := ?_) #[true, true, true, true, true, true, true, false, false, false, false, false, false, false, false, false, false, false, false, false, false, false, false, false, false, false, false, false] rfl rfl (any_of HT_.out (by kernel_rfl)) (fun _ _ _ h => h) (Or.inl ⟨by rfl, ?_⟩) ?_ ?_
                          rotate_left
                          · intro w'
                            go_simp
                            with_reducible rfl
                          rotate_left
                          · simp only [Act.put, List.setIfInBounds_toArray, List.set_cons_zero, List.set_cons_succ, i64_w, i32_w]
                            rfl
                          refine pure_ (i := 7) (N := some 28) (v := ?_) (a' := ?_) #[true, true, true, true, true, true, true, true, false, false, false, false, false, false, false, false, false, false, false, false, false, false, false, false, false, false, false, false] rfl rfl (any_of HT_.out (by kernel_rfl)) (fun _ _ _ h => h) (Or.inl ⟨by rfl, ?_⟩) ?_ ?_
                          rotate_left
                          · intro w'
                            go_simp
                            with_reducible rfl
                          rotate_left
                          · simp only [Act.put, List.setIfInBounds_toArray, List.set_cons_zero, List.set_cons_succ, i64_w, i32_w]
                            rfl
                          refine pure_ (i := 8) (N := some 29) (v := ?_) (a' := ?_) #[true, true, true, true, true, true, true, true, true, false, false, false, false, false, false, false, false, false, false, false, false, false, false, false, false, false, false, false] rfl rfl (any_of HT_.out (by kernel_rfl)) (fun _ _ _ h => h) (Or.inl ⟨by rfl, ?_⟩) ?_ ?_
                          rotate_left
                          · intro w'
                            go_simp
                            with_reducible rfl
                          rotate_left
                          · simp only [Act.put, List.setIfInBounds_toArray, List.set_cons_zero, List.set_cons_succ, i64_w, i32_w]
                            rfl
                          refine pure_ (i := 10) (N := some 31) (v := ?_) (a' := ?_) #[true, true, true, true, true, true, true, true, true, false, true, false, false, false, false, false, false, false, false, false, false, false, false, false, false, false, false, false] rfl rfl (any_of HT_.out (by kernel_rfl)) (fun _ _ _ h => h) (Or.inl ⟨by rfl, ?_⟩) ?_ ?_
                          rotate_left
                          · intro w'
                            go_simp
                            with_reducible rfl
                          rotate_left
                          · simp only [Act.put, List.setIfInBounds_toArray, List.set_cons_zero, List.set_cons_succ, i64_w, i32_w]
                            rfl
                          refine pure_ (i := 11) (N := some 32) (v := ?_) (a' := ?_) #[true, true, true, true, true, true, true, true, true, false, true, true, false, false, false, false, false, false, false, false, false, false, false, false, false, false, false, false] rfl rfl (any_of HT_.out (by kernel_rfl)) (fun _ _ _ h => h) (Or.inl ⟨by rfl, ?_⟩) ?_ ?_
                          rotate_left
                          · intro w'
                            go_simp
                            with_reducible rfl
                          rotate_left
                          · simp only [Act.put, List.setIfInBounds_toArray, List.set_cons_zero, List.set_cons_succ, i64_w, i32_w]
                            rfl
                          refine pure_ (i := 12) (N := some 33) (v := ?_) (a' := ?_) #[true, true, true, true, true, true, true, true, true, false, true, true, true, false, false, false, false, false, false, false, false, false, false, false, false, false, false, false] rfl rfl (any_of HT_.out (by kernel_rfl)) (fun _ _ _ h => h) (Or.inl ⟨by rfl, ?_⟩) ?_ ?_
                          rotate_left
                          · intro w'
                            go_simp
                            with_reducible rfl
                          rotate_left
                          · simp only [Act.put, List.setIfInBounds_toArray, List.set_cons_zero, List.set_cons_succ, i64_w, i32_w]
                            rfl
                          refine pure_ (i := 13) (N := some 34) (v := ?_) (a' := ?_) #[true, true, true, true, true, true, true, true, true, false, true, true, true, true, false, false, false, false, false, false, false, false, false, false, false, false, false, false] rfl rfl (any_of HT_.out (by kernel_rfl)) (fun _ _ _ h => h) (Or.inl ⟨by rfl, ?_⟩) ?_ ?_
                          rotate_left
                          · intro w'
                            go_simp
                            with_reducible rfl
                          rotate_left
                          · simp only [Act.put, List.setIfInBounds_toArray, List.set_cons_zero, List.set_cons_succ, i64_w, i32_w]
                            rfl
                          refine pure_ (i := 14) (N := some 35) (v := ?_) (a' := ?_) #[true, true, true, true, true, true, true, true, true, false, true, true, true, true, true, false, false, false, false, false, false, false, false, false, false, false, false, false] rfl rfl (any_of HT_.out (by kernel_rfl)) (fun _ _ _ h => h) (Or.inl ⟨by rfl, ?_⟩) ?_ ?_
                          rotate_left
                          · intro w'
                            go_simp
                            with_reducible rfl
                          rotate_left
                          · simp only [Act.put, List.setIfInBounds_toArray, List.set_cons_zero, List.set_cons_succ, i64_w, i32_w]
                            rfl
                          refine take_ (i := 9) (N := some 30) (v := ?_) (a' := ?_) #[true, true, true, true, true, true, true, true, true, true, true, true, true, true, true, false, false, false, false, false, false, false, false, false, false, false, false, false] rfl rfl (take_ofW HT_.out HW_.out (by kernel_rfl)) (fun _ _ _ h => h) (Or.inl ⟨by rfl, ?_⟩) hHeld ?_ ?_
                          rotate_left
                          · rintro w' ⟨s0, s1, s2, s3, s4, s5, s6, s7⟩
                            go_simp
                            with_reducible rfl
                          rotate_left
                          · simp only [Act.put, List.setIfInBounds_toArray, List.set_cons_zero, List.set_cons_succ, i64_w, i32_w]
                            rfl
                          refine take_ (i := 15) (N := some 36) (v := ?_) (a' := ?_) #[true, true, true, true, true, true, true, true, true, true, true, true, true, true, true, true, false, false, false, false, false, false, false, false, false, false, false, false] rfl rfl (take_ofW HT_.out HW_.out (by kernel_rfl)) (fun _ _ _ h => h) (Or.inl ⟨by rfl, ?_⟩) hHeld ?_ ?_
                          rotate_left
                          · rintro w' ⟨s0, s1, s2, s3, s4, s5, s6, s7⟩
                            go_simp
                            with_reducible rfl
                          rotate_left
                          · simp only [Act.put, List.setIfInBounds_toArray, List.set_cons_zero, List.set_cons_succ, i64_w, i32_w]
                            rfl
                          refine pure_ (i := 16) (N := some 37) (v := ?_) (a' := ?_) #[true, true, true, true, true, true, true, true, true, true, true, true, true, true, true, true, true, false, false, false, false, false, false, false, false, false, false, false] rfl rfl (any_of HT_.out (by kernel_rfl)) (fun _ _ _ h => h) (Or.inl ⟨by rfl, ?_⟩) ?_ ?_
                          rotate_left
                          · intro w'
                            go_simp
                            with_reducible rfl
                          rotate_left
                          · simp only [Act.put, List.setIfInBounds_toArray, List.set_cons_zero, List.set_cons_succ, i64_w, i32_w]
                            rfl
                          refine pure_ (i := 17) (N := some 38) (v := ?_) (a' := ?_) #[true, true, true, true, true, true, true, true, true, true, true, true, true, true, true, true, true, true, false, false, false, false, false, false, false, false, false, false] rfl rfl (any_of HT_.out (by kernel_rfl)) (fun _ _ _ h => h) (Or.inl ⟨by rfl, ?_⟩) ?_ ?_
                          rotate_left
                          · intro w'
                            go_simp
                            with_reducible rfl
                          rotate_left
                          · simp only [Act.put, List.setIfInBounds_toArray, List.set_cons_zero, List.set_cons_succ, i64_w, i32_w]
                            rfl
                          refine pure_ (i := 18) (N := some 39) (v := ?_) (a' := ?_) #[true, true, true, true, true, true, true, true, true, true, true, true, true, true, true, true, true, true, true, false, false, false, false, false, false, false, false, false] rfl rfl (any_of HT_.out (by kernel_rfl)) (fun _ _ _ h => h) (Or.inl ⟨by rfl, ?_⟩) ?_ ?_
                          rotate_left
                          · intro w'
                            go_simp
                            with_reducible rfl
                          rotate_left
                          · simp only [Act.put, List.setIfInBounds_toArray, List.set_cons_zero, List.set_cons_succ, i64_w, i32_w]
                            rfl
                          refine pure_ (i := 19) (N := some 40) (v := ?_) (a' := ?_) #[true, true, true, true, true, true, true, true, true, true, true, true, true, true, true, true, true, true, true, true, false, false, false, false, false, false, false, false] rfl rfl (any_of HT_.out (by kernel_rfl)) (fun _ _ _ h => h) (Or.inl ⟨by rfl, ?_⟩) ?_ ?_
                          rotate_left
                          · intro w'
                            go_simp
                            with_reducible rfl
                          rotate_left
                          · simp only [Act.put, List.setIfInBounds_toArray, List.set_cons_zero, List.set_cons_succ, i64_w, i32_w]
                            rfl
                          refine pure_ (i := 20) (N := some 41) (v := undef) (a' := ?_) #[true, true, true, true, true, true, true, true, true, true, true, true, true, true, true, true, true, true, true, true, true, false, false, false, false, false, false, false] rfl rfl (any_of HT_.out (by kernel_rfl)) (fun _ _ _ h => h) (Or.inr ⟨by rfl, rfl⟩) ?_ ?_
                          rotate_left
                          · simp only [Act.put, List.setIfInBounds_toArray, List.set_cons_zero, List.set_cons_succ, i64_w, i32_w]
                            rfl
                          refine pure_ (i := 21) (N := some 42) (v := undef) (a' := ?_) #[true, true, true, true, true, true, true, true, true, true, true, true, true, true, true, true, true, true, true, true, true, true, false, false, false, false, false, false] rfl rfl (any_of HT_.out (by kernel_rfl)) (fun _ _ _ h => h) (Or.inr ⟨by rfl, rfl⟩) ?_ ?_
                          rotate_left
                          · simp only [Act.put, List.setIfInBounds_toArray, List.set_cons_zero, List.set_cons_succ, i64_w, i32_w]
                            rfl
                          refine pure_ (i := 22) (N := some 43) (v := undef) (a' := ?_) #[true, true, true, true, true, true, true, true, true, true, true, true, true, true, true, true, true, true, true, true, true, true, true, false, false, false, false, false] rfl rfl (any_of HT_.out (by kernel_rfl)) (fun _ _ _ h => h) (Or.inr ⟨by rfl, rfl⟩) ?_ ?_
                          rotate_left
                          · simp only [Act.put, List.setIfInBounds_toArray, List.set_cons_zero, List.set_cons_succ, i64_w, i32_w]
                            rfl
                          refine pure_ (i := 23) (N := some 44) (v := undef) (a' := ?_) #[true, true, true, true, true, true, true, true, true, true, true, true, true, true, true, true, true, true, true, true, true, true, true, true, false, false, false, false] rfl rfl (any_of HT_.out (by kernel_rfl)) (fun _ _ _ h => h) (Or.inr ⟨by rfl, rfl⟩) ?_ ?_
                          rotate_left
                          · simp only [Act.put, List.setIfInBounds_toArray, List.set_cons_zero, List.set_cons_succ, i64_w, i32_w]
                            rfl
                          refine pure_ (i := 24) (N := some 45) (v := undef) (a' := ?_) #[true, true, true, true, true, true, true, true, true, true, true, true, true, true, true, true, true, true, true, true, true, true, true, true, true, false, false, false] rfl rfl (any_of HT_.out (by kernel_rfl)) (fun _ _ _ h => h) (Or.inr ⟨by rfl, rfl⟩) ?_ ?_
                          rotate_left
                          · simp only [Act.put, List.setIfInBounds_toArray, List.set_cons_zero, List.set_cons_succ, i64_w, i32_w]
                            rfl
                          refine pure_ (i := 25) (N := some 46) (v := undef) (a' := ?_) #[true, true, true, true, true, true, true, true, true, true, true, true, true, true, true, true, true, true, true, true, true, true, true, true, true, true, false, false] rfl rfl (any_of HT_.out (by kernel_rfl)) (fun _ _ _ h => h) (Or.inr ⟨by rfl, rfl⟩) ?_ ?_
                          rotate_left
                          · simp only [Act.put, List.setIfInBounds_toArray, List.set_cons_zero, List.set_cons_succ, i64_w, i32_w]
                            rfl
                          refine pure_ (i := 26) (N := some 47) (v := undef) (a' := ?_) #[true, true, true, true, true, true, true, true, true, true, true, true, true, true, true, true, true, true, true, true, true, true, true, true, true, true, true, false] rfl rfl (any_of HT_.out (by kernel_rfl)) (fun _ _ _ h => h) (Or.inr ⟨by rfl, rfl⟩) ?_ ?_
                          rotate_left
                          · simp only [Act.put, List.setIfInBounds_toArray, List.set_cons_zero, List.set_cons_succ, i64_w, i32_w]
                            rfl
                          refine pure_ (i := 27) (N := some 48) (v := ?_) (a' := ?_) #[true, true, true, true, true, true, true, true, true, true, true, true, true, true, true, true, true, true, true, true, true, true, true, true, true, true, true, true] rfl rfl (any_of HT_.out (by kernel_rfl)) (fun _ _ _ h => h) (Or.inl ⟨by rfl, ?_⟩) ?_ ?_
                          rotate_left
                          · intro w'
                            go_simp
                            with_reducible rfl
                          rotate_left
                          · simp only [Act.put, List.setIfInBounds_toArray, List.set_cons_zero, List.set_cons_succ, i64_w, i32_w]
                            rfl
                          refine done_ (done_of HT_.out (by kernel_rfl)) ?_
                          try go_wp2
                          go_meet
                          case rel => exact ⟨_, (true), (by first | rfl | (simp; done) | (simp [*]; done)), H', ⟨by have := HK1.out; first | omega | exact Nat.le_refl _⟩, ⟨show MapAt (kkStr Tryd.prog 9 Tryd.underlying9) ekI64 _ gm195 x3_1 from by (with_reducible repeat (first | refine MapAt.alloc ?_ _ | refine MapAt.drewN ?_ _ | refine MapAt.drew ?_)); exact HM_3.out⟩, ⟨by (with_reducible repeat (first | refine blk_drewN ?_ _ | refine blk_drew ?_ | refine blk_alloc ?_ _)); exact BK197.out⟩, ⟨by repeat (first | (with_reducible first | exact HB.out | apply below_alloc | apply pw_below_drewN | apply below_drew1 | refine below_set ?_ GE197.out) | exact HB.out)⟩⟩
                      · rw [if_neg c16] at H
                        exact absurd H (by simp)
                    · rw [if_neg c15] at H
                      exact absurd H (by simp)
                  · rw [if_neg c13] at H
                    have c13b0 : decide (0 < x16_1) = false := decide_eq_false c13
                    clear c13
                    (first | rw [c13b0] | (simp only [i64_w, i32_w]; rw [c13b0]) | skip)
                    obtain ⟨bq29, hbq29⟩ : ∃ b_ : Bool, b_ = ((rd_T34 l0 x16_1).f3) := ⟨_, rfl⟩
                    replace H : (if bq29 = true then (impl_TreeOk.j1 k1 l0 x3_1 l0 (l0.length : Int) x16_1 (((rd_T34 l0 x16_1).f1) != 2) ((rd_T34 l0 x16_1).f0) ((rd_T34 l0 x16_1).f1) ((rd_T34 l0 x16_1).f2) bq29) else (impl_TreeOk.j1 k1 l0 x3_1 l0 (l0.length : Int) x16_1 false ((rd_T34 l0 x16_1).f0) ((rd_T34 l0 x16_1).f1) ((rd_T34 l0 x16_1).f2) bq29)) = some r := by rw [← hbq29] at H; exact H
                    have Nbq29 := Aside0.mk hbq29
                    clear hbq29
                    by_cases c30 : bq29 = true
                    · subst c30
                      have H1 : (impl_TreeOk.j1 k1 l0 x3_1 l0 (l0.length : Int) x16_1 (((rd_T34 l0 x16_1).f1) != 2) ((rd_T34 l0 x16_1).f0) ((rd_T34 l0 x16_1).f1) ((rd_T34 l0 x16_1).f2) true) = some r := by rw [if_pos rfl] at H; exact H
                      clear H
                      have H := H1
                      clear H1
                      have H' := Aside0.mk H
                      clear H
                      try go_wp2
                      have n0_ : Aside0 (((((w9.setCell ⟨gb197, 0, none⟩ (.string ((rd_T34 l0 x16_1).f0))).setCell ⟨gb197, 1, none⟩ (.int .i64 ((rd_T34 l0 x16_1).f1))).setCell ⟨gb197, 2, none⟩ (.string ((rd_T34 l0 x16_1).f2))).setCell ⟨gb197, 3, none⟩ (.bool (true))).heap[gb197]? = some (.cells #[.string ((rd_T34 l0 x16_1).f0), .int .i64 ((rd_T34 l0 x16_1).f1), .string ((rd_T34 l0 x16_1).f2), .bool true] 34 (0, 0))) := ⟨by (with_reducible repeat (first | refine blk_drewN ?_ _ | refine blk_drew ?_ | refine blk_alloc ?_ _)); refine blk_put (cs := #[.string ((rd_T34 l0 x16_1).f0), .int .i64 ((rd_T34 l0 x16_1).f1), .string ((rd_T34 l0 x16_1).f2), .bool false]) ?_ 3 _ rfl; (with_reducible repeat (first | refine blk_drewN ?_ _ | refine blk_drew ?_ | refine blk_alloc ?_ _)); refine blk_put (cs := #[.string ((rd_T34 l0 x16_1).f0), .int .i64 ((rd_T34 l0 x16_1).f1), .string (⟨#[]⟩ : ByteArray), .bool false]) ?_ 2 _ rfl; (with_reducible repeat (first | refine blk_drewN ?_ _ | refine blk_drew ?_ | refine blk_alloc ?_ _)); refine blk_put (cs := #[.string ((rd_T34 l0 x16_1).f0), .int .i64 0, .string (⟨#[]⟩ : ByteArray), .bool false]) ?_ 1 _ rfl; (with_reducible repeat (first | refine blk_drewN ?_ _ | refine blk_drew ?_ | refine blk_alloc ?_ _)); refine blk_put (cs := #[.string (⟨#[]⟩ : ByteArray), .int .i64 0, .string (⟨#[]⟩ : ByteArray), .bool false]) ?_ 0 _ rfl; (with_reducible repeat (first | refine blk_drewN ?_ _ | refine blk_drew ?_ | refine blk_alloc ?_ _)); exact BK197.out⟩
                      have n1_ : Aside0 (MapAt (kkStr Tryd.prog 9 Tryd.underlying9) ekI64 ((((w9.setCell ⟨gb197, 0, none⟩ (.string ((rd_T34 l0 x16_1).f0))).setCell ⟨gb197, 1, none⟩ (.int .i64 ((rd_T34 l0 x16_1).f1))).setCell ⟨gb197, 2, none⟩ (.string ((rd_T34 l0 x16_1).f2))).setCell ⟨gb197, 3, none⟩ (.bool (true))) gm195 x3_1) := ⟨by (with_reducible repeat (first | refine MapAt.alloc ?_ _ | refine MapAt.drewN ?_ _ | refine MapAt.drew ?_ | refine MapAt.set_ ?_ _ _)); exact HM_3.out⟩
                      have n2_ : Aside0 (Below w.heap.size w ((((w9.setCell ⟨gb197, 0, none⟩ (.string ((rd_T34 l0 x16_1).f0))).setCell ⟨gb197, 1, none⟩ (.int .i64 ((rd_T34 l0 x16_1).f1))).setCell ⟨gb197, 2, none⟩ (.string ((rd_T34 l0 x16_1).f2))).setCell ⟨gb197, 3, none⟩ (.bool (true)))) := ⟨by repeat (first | (with_reducible first | exact HB.out | apply below_alloc | apply pw_below_drewN | apply below_drew1 | refine below_set ?_ GE197.out) | exact HB.out)⟩
                      (try rw [← Nbq29.out])
                      (try clear BK197)
                      (try clear HM_3)
                      (try clear HB)
                      generalize ((((w9.setCell ⟨gb197, 0, none⟩ (.string ((rd_T34 l0 x16_1).f0))).setCell ⟨gb197, 1, none⟩ (.int .i64 ((rd_T34 l0 x16_1).f1))).setCell ⟨gb197, 2, none⟩ (.string ((rd_T34 l0 x16_1).f2))).setCell ⟨gb197, 3, none⟩ (.bool (true))) = w31 at n0_ n1_ n2_ ⊢
                      have BK197 := n0_
                      have HM_3 := n1_
                      have HB := n2_
                      clear n0_ n1_ n2_
                      have n0_ := Aside0.mk (blk_drew BK197.out)
                      have n1_ := Aside0.mk (MapAt.drew HM_3.out)
                      have n2_ := Aside0.mk (below_drew1 HB.out)
                      clear BK197
                      clear HM_3
                      clear HB
                      have BK197 := n0_
                      have HM_3 := n1_
                      have HB := n2_
                      clear n0_ n1_ n2_
                      refine start_ (n := 28) (S := fun w' => w'.cell? ⟨gb197, 0, none⟩ = some (.string ((rd_T34 l0 x16_1).f0)) ∧ w'.cell? ⟨gb197, 1, none⟩ = some (.int .i64 ((rd_T34 l0 x16_1).f1)) ∧ w'.cell? ⟨gb197, 2, none⟩ = some (.string ((rd_T34 l0 x16_1).f2)) ∧ w'.cell? ⟨gb197, 3, none⟩ = some (.bool true)) (ds := []) #[false, false, false, false, false, false, false, false, false, false, false, false, false, false, false, false, false, false, false, false, false, false, false, false, false, false, false, false] (by kernel_rfl) rfl rfl ⟨(blk_cell BK197.out 0).trans rfl, (blk_cell BK197.out 1).trans rfl, (blk_cell BK197.out 2).trans rfl, (blk_cell BK197.out 3).trans rfl⟩ (fun hHeld => ?_); refine with_tabW impl_TreeOk.tab7 impl_TreeOk.bits7 (fun HT_ HW_ => ?_)
                      generalize w31.drew = w32 at BK197 HM_3 HB hHeld ⊢
                      refine pure_ (i := 0) (N := some 21) (v := ?_) (a' := ?_) #[true, false, false, false, false, false, false, false, false, false, false, false, false, false, false, false, false, false, false, false, false, false, false, false, false, false, false, false] rfl rfl (any_of HT_.out (by kernel_rfl)) (fun _ _ _ h => h) (Or.inl ⟨by rfl, ?_⟩) ?_ ?_
                      rotate_left
                      · intro w'
                        go_simp
                        with_reducible rfl
                      rotate_left
                      · simp only [Act.put, List.setIfInBounds_toArray, List.set_cons_zero, List.set_cons_succ, i64_w, i32_w]
                        rfl
                      refine take_ (i := 1) (N := some 22) (v := ?_) (a' := ?_) #[true, true, false, false, false, false, false, false, false, false, false, false, false, false, false, false, false, false, false, false, false, false, false, false, false, false, false, false] rfl rfl (take_ofW HT_.out HW_.out (by kernel_rfl)) (fun _ _ _ h => h) (Or.inl ⟨by rfl, ?_⟩) hHeld ?_ ?_
                      rotate_left
                      · rintro w' ⟨s0, s1, s2, s3⟩
                        go_simp
                        with_reducible rfl
                      rotate_left
                      · simp only [Act.put, List.setIfInBounds_toArray, List.set_cons_zero, List.set_cons_succ, i64_w, i32_w]
                        rfl
                      refine one_ (i := 2) (N := some 23) #[true, true, true, false, false, false, false, false, false, false, false, false, false, false, false, false, false, false, false, false, false, false, false, false, false, false, false, false] rfl rfl (one_of HT_.out (by kernel_rfl)) (by decide) (fun K hK => ?_)
                      refine goes_ Tryd.func56 (by kernel_rfl) rfl #[.string ((rd_T34 l0 x16_1).f0)] (by rfl) rfl rfl (by (try simp only [List.map_toArray, List.map_cons, List.map_nil]); first | done | rfl | (simp only [List.length_drop, List.length_take]; rfl)) ?_
                      with_reducible refine (impl_pathOk.calls k1 ((rd_T34 l0 x16_1).f0) true _ ?side1 A11.out).mono ?_
                      (case side1 => refine EnvW.below HE.out ?_; repeat (first | (with_reducible first | exact HB.out | apply below_alloc | apply pw_below_drewN | apply below_drew1 | refine below_set ?_ GE197.out) | exact HB.out))
                      rintro e w33 ⟨rfl, hb⟩
                      refine ⟨_, rfl, ?_⟩
                      have n0_ := Aside0.mk (MapAt.below (show MapAt (kkStr Tryd.prog 9 Tryd.underlying9) ekI64 _ gm195 x3_1 from by (with_reducible repeat (first | refine MapAt.alloc ?_ _ | refine MapAt.drewN ?_ _ | refine MapAt.drew ?_)); exact HM_3.out) hb)
                      have n1_ := Aside0.mk (blk_below (g := gb197) (o := .cells #[.string ((rd_T34 l0 x16_1).f0), .int .i64 ((rd_T34 l0 x16_1).f1), .string ((rd_T34 l0 x16_1).f2), .bool true] 34 (0, 0)) (by (with_reducible repeat (first | refine blk_drewN ?_ _ | refine blk_drew ?_ | refine blk_alloc ?_ _)); exact BK197.out) hb)
                      have n2_ := Aside0.mk (below_step (by repeat (first | (with_reducible first | exact HB.out | apply below_alloc | apply pw_below_drewN | apply below_drew1 | refine below_set ?_ GE197.out) | exact HB.out)) hb)
                      clear HM_3
                      clear BK197
                      clear HB
                      have HM_3 := n0_
                      have BK197 := n1_
                      have HB := n2_
                      clear n0_ n1_ n2_
                      (try clear hb)
                      (try clear hb2)
                      (try clear hk)
                      (try clear hi)
                      refine hK.out _ _ ⟨(blk_cell BK197.out 0).trans rfl, (blk_cell BK197.out 1).trans rfl, (blk_cell BK197.out 2).trans rfl, (blk_cell BK197.out 3).trans rfl⟩ (fun hHeld => ?_)
                      clear hK K
                      refine norm_ (a' := ?_) ?_ ?_
                      rotate_left
                      · show Act.put _ (some 23) _ = _
                        simp only [Act.put, List.setIfInBounds_toArray, List.set_cons_zero, List.set_cons_succ, i64_w, i32_w]
                        rfl
                      refine pure_ (i := 3) (N := some 24) (v := ?_) (a' := ?_) #[true, true, true, true, false, false, false, false, false, false, false, false, false, false, false, false, false, false, false, false, false, false, false, false, false, false, false, false] rfl rfl (any_of HT_.out (by kernel_rfl)) (fun _ _ _ h => h) (Or.inl ⟨by rfl, ?_⟩) ?_ ?_
                      rotate_left
                      · intro w'
                        go_simp
                        with_reducible rfl
                      rotate_left
                      · simp only [Act.put, List.setIfInBounds_toArray, List.set_cons_zero, List.set_cons_succ, i64_w, i32_w]
                        rfl
                      refine pure_ (i := 4) (N := some 25) (v := ?_) (a' := ?_) #[true, true, true, true, true, false, false, false, false, false, false, false, false, false, false, false, false, false, false, false, false, false, false, false, false, false, false, false] rfl rfl (any_of HT_.out (by kernel_rfl)) (fun _ _ _ h => h) (Or.inl ⟨by rfl, ?_⟩) ?_ ?_
                      rotate_left
                      · intro w'
                        go_simp
                        with_reducible rfl
                      rotate_left
                      · simp only [Act.put, List.setIfInBounds_toArray, List.set_cons_zero, List.set_cons_succ, i64_w, i32_w]
                        rfl
                      refine pure_ (i := 5) (N := some 26) (v := ?_) (a' := ?_) #[true, true, true, true, true, true, false, false, false, false, false, false, false, false, false, false, false, false, false, false, false, false, false, false, false, false, false, false] rfl rfl (any_of HT_.out (by kernel_rfl)) (fun _ _ _ h => h) (Or.inl ⟨by rfl, ?_⟩) ?_ ?_
                      rotate_left
                      · intro w'
                        go_simp
                        with_reducible rfl
                      rotate_left
                      · simp only [Act.put, List.setIfInBounds_toArray, List.set_cons_zero, List.set_cons_succ, i64_w, i32_w]
                        rfl
                      refine pure_ (i := 6) (N := some 27) (v := ?_) (a' := ?_) #[true, true, true, true, true, true, true, false, false, false, false, false, false, false, false, false, false, false, false, false, false, false, false, false, false, false, false, false] rfl rfl (any_of HT_.out (by kernel_rfl)) (fun _ _ _ h => h) (Or.inl ⟨by rfl, ?_⟩) ?_ ?_
                      rotate_left
                      · intro w'
                        go_simp
                        with_reducible rfl
                      rotate_left
                      · simp only [Act.put, List.setIfInBounds_toArray, List.set_cons_zero, List.set_cons_succ, i64_w, i32_w]
                        rfl
                      refine pure_ (i := 7) (N := some 28) (v := ?_) (a' := ?_) #[true, true, true, true, true, true, true, true, false, false, false, false, false, false, false, false, false, false, false, false, false, false, false, false, false, false, false, false] rfl rfl (any_of HT_.out (by kernel_rfl)) (fun _ _ _ h => h) (Or.inl ⟨by rfl, ?_⟩) ?_ ?_
                      rotate_left
                      · intro w'
                        go_simp
                        with_reducible rfl
                      rotate_left
                      · simp only [Act.put, List.setIfInBounds_toArray, List.set_cons_zero, List.set_cons_succ, i64_w, i32_w]
                        rfl
                      refine pure_ (i := 8) (N := some 29) (v := undef) (a' := ?_) #[true, true, true, true, true, true, true, true, true, false, false, false, false, false, false, false, false, false, false, false, false, false, false, false, false, false, false, false] rfl rfl (any_of HT_.out (by kernel_rfl)) (fun _ _ _ h => h) (Or.inr ⟨by rfl, rfl⟩) ?_ ?_
                      rotate_left
                      · simp only [Act.put, List.setIfInBounds_toArray, List.set_cons_zero, List.set_cons_succ, i64_w, i32_w]
                        rfl
                      refine pure_ (i := 9) (N := some 30) (v := undef) (a' := ?_) #[true, true, true, true, true, true, true, true, true, true, false, false, false, false, false, false, false, false, false, false, false, false, false, false, false, false, false, false] rfl rfl (any_of HT_.out (by kernel_rfl)) (fun _ _ _ h => h) (Or.inr ⟨by rfl, rfl⟩) ?_ ?_
                      rotate_left
                      · simp only [Act.put, List.setIfInBounds_toArray, List.set_cons_zero, List.set_cons_succ, i64_w, i32_w]
                        rfl
                      refine pure_ (i := 10) (N := some 31) (v := undef) (a' := ?_) #[true, true, true, true, true, true, true, true, true, true, true, false, false, false, false, false, false, false, false, false, false, false, false, false, false, false, false, false] rfl rfl (any_of HT_.out (by kernel_rfl)) (fun _ _ _ h => h) (Or.inr ⟨by rfl, rfl⟩) ?_ ?_
                      rotate_left
                      · simp only [Act.put, List.setIfInBounds_toArray, List.set_cons_zero, List.set_cons_succ, i64_w, i32_w]
                        rfl
                      refine pure_ (i := 11) (N := some 32) (v := undef) (a' := ?_) #[true, true, true, true, true, true, true, true, true, true, true, true, false, false, false, false, false, false, false, false, false, false, false, false, false, false, false, false] rfl rfl (any_of HT_.out (by kernel_rfl)) (fun _ _ _ h => h) (Or.inr ⟨by rfl, rfl⟩) ?_ ?_
                      rotate_left
                      · simp only [Act.put, List.setIfInBounds_toArray, List.set_cons_zero, List.set_cons_succ, i64_w, i32_w]
                        rfl
                      refine pure_ (i := 12) (N := some 33) (v := undef) (a' := ?_) #[true, true, true, true, true, true, true, true, true, true, true, true, true, false, false, false, false, false, false, false, false, false, false, false, false, false, false, false] rfl rfl (any_of HT_.out (by kernel_rfl)) (fun _ _ _ h => h) (Or.inr ⟨by rfl, rfl⟩) ?_ ?_
                      rotate_left
                      · simp only [Act.put, List.setIfInBounds_toArray, List.set_cons_zero, List.set_cons_succ, i64_w, i32_w]
                        rfl
                      refine pure_ (i := 13) (N := some 34) (v := undef) (a' := ?_) #[true, true, true, true, true, true, true, true, true, true, true, true, true, true, false, false, false, false, false, false, false, false, false, false, false, false, false, false] rfl rfl (any_of HT_.out (by kernel_rfl)) (fun _ _ _ h => h) (Or.inr ⟨by rfl, rfl⟩) ?_ ?_
                      rotate_left
                      · simp only [Act.put, List.setIfInBounds_toArray, List.set_cons_zero, List.set_cons_succ, i64_w, i32_w]
                        rfl
                      refine pure_ (i := 14) (N := some 35) (v := undef) (a' := ?_) #[true, true, true, true, true, true, true, true, true, true, true, true, true, true, true, false, false, false, false, false, false, false, false, false, false, false, false, false] rfl rfl (any_of HT_.out (by kernel_rfl)) (fun _ _ _ h => h) (Or.inr ⟨by rfl, rfl⟩) ?_ ?_
                      rotate_left
                      · simp only [Act.put, List.setIfInBounds_toArray, List.set_cons_zero, List.set_cons_succ, i64_w, i32_w]
                        rfl
                      refine pure_ (i := 15) (N := some 36) (v := undef) (a' := ?_) #[true, true, true, true, true, true, true, true, true, true, true, true, true, true, true, true, false, false, false, false, false, false, false, false, false, false, false, false] rfl rfl (any_of HT_.out (by kernel_rfl)) (fun _ _ _ h => h) (Or.inr ⟨by rfl, rfl⟩) ?_ ?_
                      rotate_left
                      · simp only [Act.put, List.setIfInBounds_toArray, List.set_cons_zero, List.set_cons_succ, i64_w, i32_w]
                        rfl
                      refine pure_ (i := 16) (N := some 37) (v := undef) (a' := ?_) #[true, true, true, true, true, true, true, true, true, true, true, true, true, true, true, true, true, false, false, false, false, false, false, false, false, false, false, false] rfl rfl (any_of HT_.out (by kernel_rfl)) (fun _ _ _ h => h) (Or.inr ⟨by rfl, rfl⟩) ?_ ?_
                      rotate_left
                      · simp only [Act.put, List.setIfInBounds_toArray, List.set_cons_zero, List.set_cons_succ, i64_w, i32_w]
                        rfl
                      refine pure_ (i := 17) (N := some 38) (v := ?_) (a' := ?_) #[true, true, true, true, true, true, true, true, true, true, true, true, true, true, true, true, true, true, false, false, false, false, false, false, false, false, false, false] rfl rfl (any_of HT_.out (by kernel_rfl)) (fun _ _ _ h => h) (Or.inl ⟨by rfl, ?_⟩) ?_ ?_
                      rotate_left
                      · intro w'
                        go_simp
                        with_reducible rfl
                      rotate_left
                      · simp only [Act.put, List.setIfInBounds_toArray, List.set_cons_zero, List.set_cons_succ, i64_w, i32_w]
                        rfl
                      refine pure_ (i := 18) (N := some 39) (v := ?_) (a' := ?_) #[true, true, true, true, true, true, true, true, true, true, true, true, true, true, true, true, true, true, true, false, false, false, false, false, false, false, false, false] rfl rfl (any_of HT_.out (by kernel_rfl)) (fun _ _ _ h => h) (Or.inl ⟨by rfl, ?_⟩) ?_ ?_
                      rotate_left
                      · intro w'
                        go_simp
                        with_reducible rfl
                      rotate_left
                      · simp only [Act.put, List.setIfInBounds_toArray, List.set_cons_zero, List.set_cons_succ, i64_w, i32_w]
                        rfl
                      refine pure_ (i := 19) (N := some 40) (v := ?_) (a' := ?_) #[true, true, true, true, true, true, true, true, true, true, true, true, true, true, true, true, true, true, true, true, false, false, false, false, false, false, false, false] rfl rfl (any_of HT_.out (by kernel_rfl)) (fun _ _ _ h => h) (Or.inl ⟨by rfl, ?_⟩) ?_ ?_
                      rotate_left
                      · intro w'
                        go_simp
                        with_reducible rfl
                      rotate_left
                      · simp only [Act.put, List.setIfInBounds_toArray, List.set_cons_zero, List.set_cons_succ, i64_w, i32_w]
                        rfl
                      refine pure_ (i := 20) (N := some 41) (v := ?_) (a' := ?_) #[true, true, true, true, true, true, true, true, true, true, true, true, true, true, true, true, true, true, true, true, true, false, false, false, false, false, false, false] rfl rfl (any_of HT_.out (by kernel_rfl)) (fun _ _ _ h => h) (Or.inl ⟨by rfl, ?_⟩) ?_ ?_
                      rotate_left
                      · intro w'
                        go_simp
                        with_reducible rfl
                      rotate_left
                      · simp only [Act.put, List.setIfInBounds_toArray, List.set_cons_zero, List.set_cons_succ, i64_w, i32_w]
                        rfl
                      refine take_ (i := 21) (N := some 42) (v := ?_) (a' := ?_) #[true, true, true, true, true, true, true, true, true, true, true, true, true, true, true, true, true, true, true, true, true, true, false, false, false, false, false, false] rfl rfl (take_ofW HT_.out HW_.out (by kernel_rfl)) (fun _ _ _ h => h) (Or.inl ⟨by rfl, ?_⟩) hHeld ?_ ?_
                      rotate_left
                      · rintro w' ⟨s0, s1, s2, s3⟩
                        go_simp
                        with_reducible rfl
                      rotate_left
                      · simp only [Act.put, List.setIfInBounds_toArray, List.set_cons_zero, List.set_cons_succ, i64_w, i32_w]
                        rfl
                      refine pure_ (i := 22) (N := some 43) (v := ?_) (a' := ?_) #[true, true, true, true, true, true, true, true, true, true, true, true, true, true, true, true, true, true, true, true, true, true, true, false, false, false, false, false] rfl rfl (any_of HT_.out (by kernel_rfl)) (fun _ _ _ h => h) (Or.inl ⟨by rfl, ?_⟩) ?_ ?_
                      rotate_left
                      · intro w'
                        go_simp
                        with_reducible rfl
                      rotate_left
                      · simp only [Act.put, List.setIfInBounds_toArray, List.set_cons_zero, List.set_cons_succ, i64_w, i32_w]
                        rfl
                      refine pure_ (i := 23) (N := some 44) (v := ?_) (a' := ?_) #[true, true, true, true, true, true, true, true, true, true, true, true, true, true, true, true, true, true, true, true, true, true, true, true, false, false, false, false] rfl rfl (any_of HT_.out (by kernel_rfl)) (fun _ _ _ h => h) (Or.inl ⟨by rfl, ?_⟩) ?_ ?_
                      rotate_left
                      · intro w'
                        go_simp
                        with_reducible rfl
                      rotate_left
                      · simp only [Act.put, List.setIfInBounds_toArray, List.set_cons_zero, List.set_cons_succ, i64_w, i32_w]
                        rfl
                      refine take_ (i := 24) (N := some 45) (v := ?_) (a' := ?_) #[true, true, true, true, true, true, true, true, true, true, true, true, true, true, true, true, true, true, true, true, true, true, true, true, true, false, false, false] rfl rfl (take_ofW HT_.out HW_.out (by kernel_rfl)) (fun _ _ _ h => h) (Or.inl ⟨by rfl, ?_⟩) hHeld ?_ ?_
                      rotate_left
                      · rintro w' ⟨s0, s1, s2, s3⟩
                        go_simp
                        with_reducible rfl
                      rotate_left
                      · simp only [Act.put, List.setIfInBounds_toArray, List.set_cons_zero, List.set_cons_succ, i64_w, i32_w]
                        rfl
                      refine pure_ (i := 25) (N := some 46) (v := ?_) (a' := ?_) #[true, true, true, true, true, true, true, true, true, true, true, true, true, true, true, true, true, true, true, true, true, true, true, true, true, true, false, false] rfl rfl (any_of HT_.out (by kernel_rfl)) (fun _ _ _ h => h) (Or.inl ⟨by rfl, ?_⟩) ?_ ?_
                      rotate_left
                      · intro w'
                        go_simp
                        with_reducible rfl
                      rotate_left
                      · simp only [Act.put, List.setIfInBounds_toArray, List.set_cons_zero, List.set_cons_succ, i64_w, i32_w]
                        rfl
                      refine pure_ (i := 26) (N := some 47) (v := ?_) (a' := ?_) #[true, true, true, true, true, true, true, true, true, true, true, true, true, true, true, true, true, true, true, true, true, true, true, true, true, true, true, false] rfl rfl (any_of HT_.out (by kernel_rfl)) (fun _ _ _ h => h) (Or.inl ⟨by rfl, ?_⟩) ?_ ?_
                      rotate_left
                      · intro w'
                        go_simp
                        with_reducible rfl
                      rotate_left
                      · simp only [Act.put, List.setIfInBounds_toArray, List.set_cons_zero, List.set_cons_succ, i64_w, i32_w]
                        rfl
                      refine pure_ (i := 27) (N := some 48) (v := ?_) (a' := ?_) #[true, true, true, true, true, true, true, true, true, true, true, true, true, true, true, true, true, true, true, true, true, true, true, true, true, true, true, true] rfl rfl (any_of HT_.out (by kernel_rfl)) (fun _ _ _ h => h) (Or.inl ⟨by rfl, ?_⟩) ?_ ?_
                      rotate_left
                      · intro w'
                        go_simp
                        with_reducible rfl
                      rotate_left
                      · simp only [Act.put, List.setIfInBounds_toArray, List.set_cons_zero, List.set_cons_succ, i64_w, i32_w]
                        rfl
                      refine done_ (done_of HT_.out (by kernel_rfl)) ?_
                      try go_wp2
                      go_meet
                      case rel => (try rw [← Nbq29.out]); exact ⟨_, ((((rd_T34 l0 x16_1).f1) != 2)), (by first | rfl | (simp; done) | (simp [*]; done)), H', ⟨by have := HK1.out; first | omega | exact Nat.le_refl _⟩, ⟨show MapAt (kkStr Tryd.prog 9 Tryd.underlying9) ekI64 _ gm195 x3_1 from by (with_reducible repeat (first | refine MapAt.alloc ?_ _ | refine MapAt.drewN ?_ _ | refine MapAt.drew ?_)); exact HM_3.out⟩, ⟨by (with_reducible repeat (first | refine blk_drewN ?_ _ | refine blk_drew ?_ | refine blk_alloc ?_ _)); exact BK197.out⟩, ⟨by repeat (first | (with_reducible first | exact HB.out | apply below_alloc | apply pw_below_drewN | apply below_drew1 | refine below_set ?_ GE197.out) | exact HB.out)⟩⟩
                    · replace c30 := Bool.eq_false_iff.mpr c30
                      subst c30
                      have H1 : (impl_TreeOk.j1 k1 l0 x3_1 l0 (l0.length : Int) x16_1 false ((rd_T34 l0 x16_1).f0) ((rd_T34 l0 x16_1).f1) ((rd_T34 l0 x16_1).f2) false) = some r := by rw [if_neg (show ¬ (false = true) by decide)] at H; exact H
                      clear H
                      have H := H1
                      clear H1
                      have H' := Aside0.mk H
                      clear H
                      try go_wp2
                      have n0_ : Aside0 (((((w9.setCell ⟨gb197, 0, none⟩ (.string ((rd_T34 l0 x16_1).f0))).setCell ⟨gb197, 1, none⟩ (.int .i64 ((rd_T34 l0 x16_1).f1))).setCell ⟨gb197, 2, none⟩ (.string ((rd_T34 l0 x16_1).f2))).setCell ⟨gb197, 3, none⟩ (.bool (false))).heap[gb197]? = some (.cells #[.string ((rd_T34 l0 x16_1).f0), .int .i64 ((rd_T34 l0 x16_1).f1), .string ((rd_T34 l0 x16_1).f2), .bool false] 34 (0, 0))) := ⟨by (with_reducible repeat (first | refine blk_drewN ?_ _ | refine blk_drew ?_ | refine blk_alloc ?_ _)); refine blk_put (cs := #[.string ((rd_T34 l0 x16_1).f0), .int .i64 ((rd_T34 l0 x16_1).f1), .string ((rd_T34 l0 x16_1).f2), .bool false]) ?_ 3 _ rfl; (with_reducible repeat (first | refine blk_drewN ?_ _ | refine blk_drew ?_ | refine blk_alloc ?_ _)); refine blk_put (cs := #[.string ((rd_T34 l0 x16_1).f0), .int .i64 ((rd_T34 l0 x16_1).f1), .string (⟨#[]⟩ : ByteArray), .bool false]) ?_ 2 _ rfl; (with_reducible repeat (first | refine blk_drewN ?_ _ | refine blk_drew ?_ | refine blk_alloc ?_ _)); refine blk_put (cs := #[.string ((rd_T34 l0 x16_1).f0), .int .i64 0, .string (⟨#[]⟩ : ByteArray), .bool false]) ?_ 1 _ rfl; (with_reducible repeat (first | refine blk_drewN ?_ _ | refine blk_drew ?_ | refine blk_alloc ?_ _)); refine blk_put (cs := #[.string (⟨#[]⟩ : ByteArray), .int .i64 0, .string (⟨#[]⟩ : ByteArray), .bool false]) ?_ 0 _ rfl; (with_reducible repeat (first | refine blk_drewN ?_ _ | refine blk_drew ?_ | refine blk_alloc ?_ _)); exact BK197.out⟩
                      have n1_ : Aside0 (MapAt (kkStr Tryd.prog 9 Tryd.underlying9) ekI64 ((((w9.setCell ⟨gb197, 0, none⟩ (.string ((rd_T34 l0 x16_1).f0))).setCell ⟨gb197, 1, none⟩ (.int .i64 ((rd_T34 l0 x16_1).f1))).setCell ⟨gb197, 2, none⟩ (.string ((rd_T34 l0 x16_1).f2))).setCell ⟨gb197, 3, none⟩ (.bool (false))) gm195 x3_1) := ⟨by (with_reducible repeat (first | refine MapAt.alloc ?_ _ | refine MapAt.drewN ?_ _ | refine MapAt.drew ?_ | refine MapAt.set_ ?_ _ _)); exact HM_3.out⟩
                      have n2_ : Aside0 (Below w.heap.size w ((((w9.setCell ⟨gb197, 0, none⟩ (.string ((rd_T34 l0 x16_1).f0))).setCell ⟨gb197, 1, none⟩ (.int .i64 ((rd_T34 l0 x16_1).f1))).setCell ⟨gb197, 2, none⟩ (.string ((rd_T34 l0 x16_1).f2))).setCell ⟨gb197, 3, none⟩ (.bool (false)))) := ⟨by repeat (first | (with_reducible first | exact HB.out | apply below_alloc | apply pw_below_drewN | apply below_drew1 | refine below_set ?_ GE197.out) | exact HB.out)⟩
                      (try rw [← Nbq29.out])
                      (try clear BK197)
                      (try clear HM_3)
                      (try clear HB)
                      generalize ((((w9.setCell ⟨gb197, 0, none⟩ (.string ((rd_T34 l0 x16_1).f0))).setCell ⟨gb197, 1, none⟩ (.int .i64 ((rd_T34 l0 x16_1).f1))).setCell ⟨gb197, 2, none⟩ (.string ((rd_T34 l0 x16_1).f2))).setCell ⟨gb197, 3, none⟩ (.bool (false))) = w34 at n0_ n1_ n2_ ⊢
                      have BK197 := n0_
                      have HM_3 := n1_
                      have HB := n2_
                      clear n0_ n1_ n2_
                      have n0_ := Aside0.mk (blk_drew BK197.out)
                      have n1_ := Aside0.mk (MapAt.drew HM_3.out)
                      have n2_ := Aside0.mk (below_drew1 HB.out)
                      clear BK197
                      clear HM_3
                      clear HB
                      have BK197 := n0_
                      have HM_3 := n1_
                      have HB := n2_
                      clear n0_ n1_ n2_
                      refine start_ (n := 28) (S := fun w' => w'.cell? ⟨gb197, 0, none⟩ = some (.string ((rd_T34 l0 x16_1).f0)) ∧ w'.cell? ⟨gb197, 1, none⟩ = some (.int .i64 ((rd_T34 l0 x16_1).f1)) ∧ w'.cell? ⟨gb197, 2, none⟩ = some (.string ((rd_T34 l0 x16_1).f2)) ∧ w'.cell? ⟨gb197, 3, none⟩ = some (.bool false)) (ds := []) #[false, false, false, false, false, false, false, false, false, false, false, false, false, false, false, false, false, false, false, false, false, false, false, false, false, false, false, false] (by kernel_rfl) rfl rfl ⟨(blk_cell BK197.out 0).trans rfl, (blk_cell BK197.out 1).trans rfl, (blk_cell BK197.out 2).trans rfl, (blk_cell BK197.out 3).trans rfl⟩ (fun hHeld => ?_); refine with_tabW impl_TreeOk.tab7 impl_TreeOk.bits7 (fun HT_ HW_ => ?_)
                      generalize w34.drew = w35 at BK197 HM_3 HB hHeld ⊢
                      refine pure_ (i := 0) (N := some 21) (v := ?_) (a' := ?_) #[true, false, false, false, false, false, false, false, false, false, false, false, false, false, false, false, false, false, false, false, false, false, false, false, false, false, false, false] rfl rfl (any_of HT_.out (by kernel_rfl)) (fun _ _ _ h => h) (Or.inl ⟨by rfl, ?_⟩) ?_ ?_
                      rotate_left
                      · intro w'
                        go_simp
                        with_reducible rfl
                      rotate_left
                      · simp only [Act.put, List.setIfInBounds_toArray, List.set_cons_zero, List.set_cons_succ, i64_w, i32_w]
                        rfl
                      refine take_ (i := 1) (N := some 22) (v := ?_) (a' := ?_) #[true, true, false, false, false, false, false, false, false, false, false, false, false, false, false, false, false, false, false, false, false, false, false, false, false, false, false, false] rfl rfl (take_ofW HT_.out HW_.out (by kernel_rfl)) (fun _ _ _ h => h) (Or.inl ⟨by rfl, ?_⟩) hHeld ?_ ?_
                      rotate_left
                      · rintro w' ⟨s0, s1, s2, s3⟩
                        go_simp
                        with_reducible rfl
                      rotate_left
                      · simp only [Act.put, List.setIfInBounds_toArray, List.set_cons_zero, List.set_cons_succ, i64_w, i32_w]
                        rfl
                      refine one_ (i := 2) (N := some 23) #[true, true, true, false, false, false, false, false, false, false, false, false, false, false, false, false, false, false, false, false, false, false, false, false, false, false, false, false] rfl rfl (one_of HT_.out (by kernel_rfl)) (by decide) (fun K hK => ?_)
                      refine goes_ Tryd.func56 (by kernel_rfl) rfl #[.string ((rd_T34 l0 x16_1).f0)] (by rfl) rfl rfl (by (try simp only [List.map_toArray, List.map_cons, List.map_nil]); first | done | rfl | (simp only [List.length_drop, List.length_take]; rfl)) ?_
                      with_reducible refine (impl_pathOk.calls k1 ((rd_T34 l0 x16_1).f0) true _ ?side1 A11.out).mono ?_
                      (case side1 => refine EnvW.below HE.out ?_; repeat (first | (with_reducible first | exact HB.out | apply below_alloc | apply pw_below_drewN | apply below_drew1 | refine below_set ?_ GE197.out) | exact HB.out))
                      rintro e w36 ⟨rfl, hb⟩
                      refine ⟨_, rfl, ?_⟩
                      have n0_ := Aside0.mk (MapAt.below (show MapAt (kkStr Tryd.prog 9 Tryd.underlying9) ekI64 _ gm195 x3_1 from by (with_reducible repeat (first | refine MapAt.alloc ?_ _ | refine MapAt.drewN ?_ _ | refine MapAt.drew ?_)); exact HM_3.out) hb)
                      have n1_ := Aside0.mk (blk_below (g := gb197) (o := .cells #[.string ((rd_T34 l0 x16_1).f0), .int .i64 ((rd_T34 l0 x16_1).f1), .string ((rd_T34 l0 x16_1).f2), .bool false] 34 (0, 0)) (by (with_reducible repeat (first | refine blk_drewN ?_ _ | refine blk_drew ?_ | refine blk_alloc ?_ _)); exact BK197.out) hb)
                      have n2_ := Aside0.mk (below_step (by repeat (first | (with_reducible first | exact HB.out | apply below_alloc | apply pw_below_drewN | apply below_drew1 | refine below_set ?_ GE197.out) | exact HB.out)) hb)
                      clear HM_3
                      clear BK197
                      clear HB
                      have HM_3 := n0_
                      have BK197 := n1_
                      have HB := n2_
                      clear n0_ n1_ n2_
                      (try clear hb)
                      (try clear hb2)
                      (try clear hk)
                      (try clear hi)
                      refine hK.out _ _ ⟨(blk_cell BK197.out 0).trans rfl, (blk_cell BK197.out 1).trans rfl, (blk_cell BK197.out 2).trans rfl, (blk_cell BK197.out 3).trans rfl⟩ (fun hHeld => ?_)
                      clear hK K
                      refine norm_ (a' := ?_) ?_ ?_
                      rotate_left
                      · show Act.put _ (some 23) _ = _
                        simp only [Act.put, List.setIfInBounds_toArray, List.set_cons_zero, List.set_cons_succ, i64_w, i32_w]
                        rfl
                      refine pure_ (i := 3) (N := some 24) (v := ?_) (a' := ?_) #[true, true, true, true, false, false, false, false, false, false, false, false, false, false, false, false, false, false, false, false, false, false, false, false, false, false, false, false] rfl rfl (any_of HT_.out (by kernel_rfl)) (fun _ _ _ h => h) (Or.inl ⟨by rfl, ?_⟩) ?_ ?_
                      rotate_left
                      · intro w'
                        go_simp
                        with_reducible rfl
                      rotate_left
                      · simp only [Act.put, List.setIfInBounds_toArray, List.set_cons_zero, List.set_cons_succ, i64_w, i32_w]
                        rfl
                      refine pure_ (i := 4) (N := some 25) (v := ?_) (a' := ?_) #[true, true, true, true, true, false, false, false, false, false, false, false, false, false, false, false, false, false, false, false, false, false, false, false, false, false, false, false] rfl rfl (any_of HT_.out (by kernel_rfl)) (fun _ _ _ h => h) (Or.inl ⟨by rfl, ?_⟩) ?_ ?_
                      rotate_left
                      · intro w'
                        go_simp
                        with_reducible rfl
                      rotate_left
                      · simp only [Act.put, List.setIfInBounds_toArray, List.set_cons_zero, List.set_cons_succ, i64_w, i32_w]
                        rfl
                      refine pure_ (i := 5) (N := some 26) (v := ?_) (a' := ?_) #[true, true, true, true, true, true, false, false, false, false, false, false, false, false, false, false, false, false, false, false, false, false, false, false, false, false, false, false] rfl rfl (any_of HT_.out (by kernel_rfl)) (fun _ _ _ h => h) (Or.inl ⟨by rfl, ?_⟩) ?_ ?_
                      rotate_left
                      · intro w'
                        go_simp
                        with_reducible rfl
                      rotate_left
                      · simp only [Act.put, List.setIfInBounds_toArray, List.set_cons_zero, List.set_cons_succ, i64_w, i32_w]
                        rfl
                      refine pure_ (i := 6) (N := some 27) (v := ?_) (a' := ?_) #[true, true, true, true, true, true, true, false, false, false, false, false, false, false, false, false, false, false, false, false, false, false, false, false, false, false, false, false] rfl rfl (any_of HT_.out (by kernel_rfl)) (fun _ _ _ h => h) (Or.inl ⟨by rfl, ?_⟩) ?_ ?_
                      rotate_left
                      · intro w'
                        go_simp
                        with_reducible rfl
                      rotate_left
                      · simp only [Act.put, List.setIfInBounds_toArray, List.set_cons_zero, List.set_cons_succ, i64_w, i32_w]
                        rfl
                      refine pure_ (i := 7) (N := some 28) (v := ?_) (a' := ?_) #[true, true, true, true, true, true, true, true, false, false, false, false, false, false, false, false, false, false, false, false, false, false, false, false, false, false, false, false] rfl rfl (any_of HT_.out (by kernel_rfl)) (fun _ _ _ h => h) (Or.inl ⟨by rfl, ?_⟩) ?_ ?_
                      rotate_left
                      · intro w'
                        go_simp
                        with_reducible rfl
                      rotate_left
                      · simp only [Act.put, List.setIfInBounds_toArray, List.set_cons_zero, List.set_cons_succ, i64_w, i32_w]
                        rfl
                      refine pure_ (i := 8) (N := some 29) (v := undef) (a' := ?_) #[true, true, true, true, true, true, true, true, true, false, false, false, false, false, false, false, false, false, false, false, false, false, false, false, false, false, false, false] rfl rfl (any_of HT_.out (by kernel_rfl)) (fun _ _ _ h => h) (Or.inr ⟨by rfl, rfl⟩) ?_ ?_
                      rotate_left
                      · simp only [Act.put, List.setIfInBounds_toArray, List.set_cons_zero, List.set_cons_succ, i64_w, i32_w]
                        rfl
                      refine pure_ (i := 9) (N := some 30) (v := undef) (a' := ?_) #[true, true, true, true, true, true, true, true, true, true, false, false, false, false, false, false, false, false, false, false, false, false, false, false, false, false, false, false] rfl rfl (any_of HT_.out (by kernel_rfl)) (fun _ _ _ h => h) (Or.inr ⟨by rfl, rfl⟩) ?_ ?_
                      rotate_left
                      · simp only [Act.put, List.setIfInBounds_toArray, List.set_cons_zero, List.set_cons_succ, i64_w, i32_w]
                        rfl
                      refine pure_ (i := 10) (N := some 31) (v := undef) (a' := ?_) #[true, true, true, true, true, true, true, true, true, true, true, false, false, false, false, false, false, false, false, false, false, false, false, false, false, false, false, false] rfl rfl (any_of HT_.out (by kernel_rfl)) (fun _ _ _ h => h) (Or.inr ⟨by rfl, rfl⟩) ?_ ?_
                      rotate_left
                      · simp only [Act.put, List.setIfInBounds_toArray, List.set_cons_zero, List.set_cons_succ, i64_w, i32_w]
                        rfl
                      refine pure_ (i := 11) (N := some 32) (v := undef) (a' := ?_) #[true, true, true, true, true, true, true, true, true, true, true, true, false, false, false, false, false, false, false, false, false, false, false, false, false, false, false, false] rfl rfl (any_of HT_.out (by kernel_rfl)) (fun _ _ _ h => h) (Or.inr ⟨by rfl, rfl⟩) ?_ ?_
                      rotate_left
                      · simp only [Act.put, List.setIfInBounds_toArray, List.set_cons_zero, List.set_cons_succ, i64_w, i32_w]
                        rfl
                      refine pure_ (i := 12) (N := some 33) (v := undef) (a' := ?_) #[true, true, true, true, true, true, true, true, true, true, true, true, true, false, false, false, false, false, false, false, false, false, false, false, false, false, false, false] rfl rfl (any_of HT_.out (by kernel_rfl)) (fun _ _ _ h => h) (Or.inr ⟨by rfl, rfl⟩) ?_ ?_
                      rotate_left
                      · simp only [Act.put, List.setIfInBounds_toArray, List.set_cons_zero, List.set_cons_succ, i64_w, i32_w]
                        rfl
                      refine pure_ (i := 13) (N := some 34) (v := undef) (a' := ?_) #[true, true, true, true, true, true, true, true, true, true, true, true, true, true, false, false, false, false, false, false, false, false, false, false, false, false, false, false] rfl rfl (any_of HT_.out (by kernel_rfl)) (fun _ _ _ h => h) (Or.inr ⟨by rfl, rfl⟩) ?_ ?_
                      rotate_left
                      · simp only [Act.put, List.setIfInBounds_toArray, List.set_cons_zero, List.set_cons_succ, i64_w, i32_w]
                        rfl
                      refine pure_ (i := 14) (N := some 35) (v := undef) (a' := ?_) #[true, true, true, true, true, true, true, true, true, true, true, true, true, true, true, false, false, false, false, false, false, false, false, false, false, false, false, false] rfl rfl (any_of HT_.out (by kernel_rfl)) (fun _ _ _ h => h) (Or.inr ⟨by rfl, rfl⟩) ?_ ?_
                      rotate_left
                      · simp only [Act.put, List.setIfInBounds_toArray, List.set_cons_zero, List.set_cons_succ, i64_w, i32_w]
                        rfl
                      refine pure_ (i := 15) (N := some 36) (v := undef) (a' := ?_) #[true, true, true, true, true, true, true, true, true, true, true, true, true, true, true, true, false, false, false, false, false, false, false, false, false, false, false, false] rfl rfl (any_of HT_.out (by kernel_rfl)) (fun _ _ _ h => h) (Or.inr ⟨by rfl, rfl⟩) ?_ ?_
                      rotate_left
                      · simp only [Act.put, List.setIfInBounds_toArray, List.set_cons_zero, List.set_cons_succ, i64_w, i32_w]
                        rfl
                      refine pure_ (i := 16) (N := some 37) (v := undef) (a' := ?_) #[true, true, true, true, true, true, true, true, true, true, true, true, true, true, true, true, true, false, false, false, false, false, false, false, false, false, false, false] rfl rfl (any_of HT_.out (by kernel_rfl)) (fun _ _ _ h => h) (Or.inr ⟨by rfl, rfl⟩) ?_ ?_
                      rotate_left
                      · simp only [Act.put, List.setIfInBounds_toArray, List.set_cons_zero, List.set_cons_succ, i64_w, i32_w]
                        rfl
                      refine pure_ (i := 17) (N := some 38) (v := ?_) (a' := ?_) #[true, true, true, true, true, true, true, true, true, true, true, true, true, true, true, true, true, true, false, false, false, false, false, false, false, false, false, false] rfl rfl (any_of HT_.out (by kernel_rfl)) (fun _ _ _ h => h) (Or.inl ⟨by rfl, ?_⟩) ?_ ?_
                      rotate_left
                      · intro w'
                        go_simp
                        with_reducible rfl
                      rotate_left
                      · simp only [Act.put, List.setIfInBounds_toArray, List.set_cons_zero, List.set_cons_succ, i64_w, i32_w]
                        rfl
                      refine pure_ (i := 18) (N := some 39) (v := ?_) (a' := ?_) #[true, true, true, true, true, true, true, true, true, true, true, true, true, true, true, true, true, true, true, false, false, false, false, false, false, false, false, false] rfl rfl (any_of HT_.out (by kernel_rfl)) (fun _ _ _ h => h) (Or.inl ⟨by rfl, ?_⟩) ?_ ?_
                      rotate_left
                      · intro w'
                        go_simp
                        with_reducible rfl
                      rotate_left
                      · simp only [Act.put, List.setIfInBounds_toArray, List.set_cons_zero, List.set_cons_succ, i64_w, i32_w]
                        rfl
                      refine pure_ (i := 19) (N := some 40) (v := ?_) (a' := ?_) #[true, true, true, true, true, true, true, true, true, true, true, true, true, true, true, true, true, true, true, true, false, false, false, false, false, false, false, false] rfl rfl (any_of HT_.out (by kernel_rfl)) (fun _ _ _ h => h) (Or.inl ⟨by rfl, ?_⟩) ?_ ?_
                      rotate_left
                      · intro w'
                        go_simp
                        with_reducible rfl
                      rotate_left
                      · simp only [Act.put, List.setIfInBounds_toArray, List.set_cons_zero, List.set_cons_succ, i64_w, i32_w]
                        rfl
                      refine pure_ (i := 20) (N := some 41) (v := ?_) (a' := ?_) #[true, true, true, true, true, true, true, true, true, true, true, true, true, true, true, true, true, true, true, true, true, false, false, false, false, false, false, false] rfl rfl (any_of HT_.out (by kernel_rfl)) (fun _ _ _ h => h) (Or.inl ⟨by rfl, ?_⟩) ?_ ?_
                      rotate_left
                      · intro w'
                        go_simp
                        with_reducible rfl
                      rotate_left
                      · simp only [Act.put, List.setIfInBounds_toArray, List.set_cons_zero, List.set_cons_succ, i64_w, i32_w]
                        rfl
                      refine take_ (i := 21) (N := some 42) (v := ?_) (a' := ?_) #[true, true, true, true, true, true, true, true, true, true, true, true, true, true, true, true, true, true, true, true, true, true, false, false, false, false, false, false] rfl rfl (take_ofW HT_.out HW_.out (by kernel_rfl)) (fun _ _ _ h => h) (Or.inl ⟨by rfl, ?_⟩) hHeld ?_ ?_
                      rotate_left
                      · rintro w' ⟨s0, s1, s2, s3⟩
                        go_simp
                        with_reducible rfl
                      rotate_left
                      · simp only [Act.put, List.setIfInBounds_toArray, List.set_cons_zero, List.set_cons_succ, i64_w, i32_w]
                        rfl
                      refine pure_ (i := 22) (N := some 43) (v := ?_) (a' := ?_) #[true, true, true, true, true, true, true, true, true, true, true, true, true, true, true, true, true, true, true, true, true, true, true, false, false, false, false, false] rfl rfl (any_of HT_.out (by kernel_rfl)) (fun _ _ _ h => h) (Or.inl ⟨by rfl, ?_⟩) ?_ ?_
                      rotate_left
                      · intro w'
                        go_simp
                        with_reducible rfl
                      rotate_left
                      · simp only [Act.put, List.setIfInBounds_toArray, List.set_cons_zero, List.set_cons_succ, i64_w, i32_w]
                        rfl
                      refine pure_ (i := 23) (N := some 44) (v := undef) (a' := ?_) #[true, true, true, true, true, true, true, true, true, true, true, true, true, true, true, true, true, true, true, true, true, true, true, true, false, false, false, false] rfl rfl (any_of HT_.out (by kernel_rfl)) (fun _ _ _ h => h) (Or.inr ⟨by rfl, rfl⟩) ?_ ?_
                      rotate_left
                      · simp only [Act.put, List.setIfInBounds_toArray, List.set_cons_zero, List.set_cons_succ, i64_w, i32_w]
                        rfl
                      refine pure_ (i := 24) (N := some 45) (v := undef) (a' := ?_) #[true, true, true, true, true, true, true, true, true, true, true, true, true, true, true, true, true, true, true, true, true, true, true, true, true, false, false, false] rfl rfl (any_of HT_.out (by kernel_rfl)) (fun _ _ _ h => h) (Or.inr ⟨by rfl, rfl⟩) ?_ ?_
                      rotate_left
                      · simp only [Act.put, List.setIfInBounds_toArray, List.set_cons_zero, List.set_cons_succ, i64_w, i32_w]
                        rfl
                      refine pure_ (i := 25) (N := some 46) (v := undef) (a' := ?_) #[true, true, true, true, true, true, true, true, true, true, true, true, true, true, true, true, true, true, true, true, true, true, true, true, true, true, false, false] rfl rfl (any_of HT_.out (by kernel_rfl)) (fun _ _ _ h => h) (Or.inr ⟨by rfl, rfl⟩) ?_ ?_
                      rotate_left
                      · simp only [Act.put, List.setIfInBounds_toArray, List.set_cons_zero, List.set_cons_succ, i64_w, i32_w]
                        rfl
                      refine pure_ (i := 26) (N := some 47) (v := ?_) (a' := ?_) #[true, true, true, true, true, true, true, true, true, true, true, true, true, true, true, true, true, true, true, true, true, true, true, true, true, true, true, false] rfl rfl (any_of HT_.out (by kernel_rfl)) (fun _ _ _ h => h) (Or.inl ⟨by rfl, ?_⟩) ?_ ?_
                      rotate_left
                      · intro w'
                        go_simp
                        with_reducible rfl
                      rotate_left
                      · simp only [Act.put, List.setIfInBounds_toArray, List.set_cons_zero, List.set_cons_succ, i64_w, i32_w]
                        rfl
                      refine pure_ (i := 27) (N := some 48) (v := ?_) (a' := ?_) #[true, true, true, true, true, true, true, true, true, true, true, true, true, true, true, true, true, true, true, true, true, true, true, true, true, true, true, true] rfl rfl (any_of HT_.out (by kernel_rfl)) (fun _ _ _ h => h) (Or.inl ⟨by rfl, ?_⟩) ?_ ?_
                      rotate_left
                      · intro w'
                        go_simp
                        with_reducible rfl
                      rotate_left
                      · simp only [Act.put, List.setIfInBounds_toArray, List.set_cons_zero, List.set_cons_succ, i64_w, i32_w]
                        rfl
                      refine done_ (done_of HT_.out (by kernel_rfl)) ?_
                      try go_wp2
                      go_meet
                      case rel => (try rw [← Nbq29.out]); exact ⟨_, (false), (by first | rfl | (simp; done) | (simp [*]; done)), H', ⟨by have := HK1.out; first | omega | exact Nat.le_refl _⟩, ⟨show MapAt (kkStr Tryd.prog 9 Tryd.underlying9) ekI64 _ gm195 x3_1 from by (with_reducible repeat (first | refine MapAt.alloc ?_ _ | refine MapAt.drewN ?_ _ | refine MapAt.drew ?_)); exact HM_3.out⟩, ⟨by (with_reducible repeat (first | refine blk_drewN ?_ _ | refine blk_drew ?_ | refine blk_alloc ?_ _)); exact BK197.out⟩, ⟨by repeat (first | (with_reducible first | exact HB.out | apply below_alloc | apply pw_below_drewN | apply below_drew1 | refine below_set ?_ GE197.out) | exact HB.out)⟩⟩
                · replace c12 := Bool.eq_false_iff.mpr c12
                  subst c12
                  have H1 : (impl_TreeOk.j1 k1 l0 x3_1 l0 (l0.length : Int) x16_1 true ((rd_T34 l0 x16_1).f0) ((rd_T34 l0 x16_1).f1) ((rd_T34 l0 x16_1).f2) ((rd_T34 l0 x16_1).f3)) = some r := by rw [if_neg (show ¬ (false = true) by decide)] at H; exact H
                  clear H
                  have H := H1
                  clear H1
                  have H' := Aside0.mk H
                  clear H
                  try go_wp2
                  have n0_ : Aside0 (((((w9.setCell ⟨gb197, 0, none⟩ (.string ((rd_T34 l0 x16_1).f0))).setCell ⟨gb197, 1, none⟩ (.int .i64 ((rd_T34 l0 x16_1).f1))).setCell ⟨gb197, 2, none⟩ (.string ((rd_T34 l0 x16_1).f2))).setCell ⟨gb197, 3, none⟩ (.bool ((rd_T34 l0 x16_1).f3))).heap[gb197]? = some (.cells #[.string ((rd_T34 l0 x16_1).f0), .int .i64 ((rd_T34 l0 x16_1).f1), .string ((rd_T34 l0 x16_1).f2), .bool ((rd_T34 l0 x16_1).f3)] 34 (0, 0))) := ⟨by (with_reducible repeat (first | refine blk_drewN ?_ _ | refine blk_drew ?_ | refine blk_alloc ?_ _)); refine blk_put (cs := #[.string ((rd_T34 l0 x16_1).f0), .int .i64 ((rd_T34 l0 x16_1).f1), .string ((rd_T34 l0 x16_1).f2), .bool false]) ?_ 3 _ rfl; (with_reducible repeat (first | refine blk_drewN ?_ _ | refine blk_drew ?_ | refine blk_alloc ?_ _)); refine blk_put (cs := #[.string ((rd_T34 l0 x16_1).f0), .int .i64 ((rd_T34 l0 x16_1).f1), .string (⟨#[]⟩ : ByteArray), .bool false]) ?_ 2 _ rfl; (with_reducible repeat (first | refine blk_drewN ?_ _ | refine blk_drew ?_ | refine blk_alloc ?_ _)); refine blk_put (cs := #[.string ((rd_T34 l0 x16_1).f0), .int .i64 0, .string (⟨#[]⟩ : ByteArray), .bool false]) ?_ 1 _ rfl; (with_reducible repeat (first | refine blk_drewN ?_ _ | refine blk_drew ?_ | refine blk_alloc ?_ _)); refine blk_put (cs := #[.string (⟨#[]⟩ : ByteArray), .int .i64 0, .string (⟨#[]⟩ : ByteArray), .bool false]) ?_ 0 _ rfl; (with_reducible repeat (first | refine blk_drewN ?_ _ | refine blk_drew ?_ | refine blk_alloc ?_ _)); exact BK197.out⟩
                  have n1_ : Aside0 (MapAt (kkStr Tryd.prog 9 Tryd.underlying9) ekI64 ((((w9.setCell ⟨gb197, 0, none⟩ (.string ((rd_T34 l0 x16_1).f0))).setCell ⟨gb197, 1, none⟩ (.int .i64 ((rd_T34 l0 x16_1).f1))).setCell ⟨gb197, 2, none⟩ (.string ((rd_T34 l0 x16_1).f2))).setCell ⟨gb197, 3, none⟩ (.bool ((rd_T34 l0 x16_1).f3))) gm195 x3_1) := ⟨by (with_reducible repeat (first | refine MapAt.alloc ?_ _ | refine MapAt.drewN ?_ _ | refine MapAt.drew ?_ | refine MapAt.set_ ?_ _ _)); exact HM_3.out⟩
                  have n2_ : Aside0 (Below w.heap.size w ((((w9.setCell ⟨gb197, 0, none⟩ (.string ((rd_T34 l0 x16_1).f0))).setCell ⟨gb197, 1, none⟩ (.int .i64 ((rd_T34 l0 x16_1).f1))).setCell ⟨gb197, 2, none⟩ (.string ((rd_T34 l0 x16_1).f2))).setCell ⟨gb197, 3, none⟩ (.bool ((rd_T34 l0 x16_1).f3)))) := ⟨by repeat (first | (with_reducible first | exact HB.out | apply below_alloc | apply pw_below_drewN | apply below_drew1 | refine below_set ?_ GE197.out) | exact HB.out)⟩
                  (try clear BK197)
                  (try clear HM_3)
                  (try clear HB)
                  generalize ((((w9.setCell ⟨gb197, 0, none⟩ (.string ((rd_T34 l0 x16_1).f0))).setCell ⟨gb197, 1, none⟩ (.int .i64 ((rd_T34 l0 x16_1).f1))).setCell ⟨gb197, 2, none⟩ (.string ((rd_T34 l0 x16_1).f2))).setCell ⟨gb197, 3, none⟩ (.bool ((rd_T34 l0 x16_1).f3))) = w37 at n0_ n1_ n2_ ⊢
                  have BK197 := n0_
                  have HM_3 := n1_
                  have HB := n2_
                  clear n0_ n1_ n2_
                  have n0_ := Aside0.mk (blk_drew BK197.out)
                  have n1_ := Aside0.mk (MapAt.drew HM_3.out)
                  have n2_ := Aside0.mk (below_drew1 HB.out)
                  clear BK197
                  clear HM_3
                  clear HB
                  have BK197 := n0_
                  have HM_3 := n1_
                  have HB := n2_
                  clear n0_ n1_ n2_
                  refine start_ (n := 28) (S := fun w' => w'.cell? ⟨gb197, 0, none⟩ = some (.string ((rd_T34 l0 x16_1).f0)) ∧ w'.cell? ⟨gb197, 1, none⟩ = some (.int .i64 ((rd_T34 l0 x16_1).f1)) ∧ w'.cell? ⟨gb197, 2, none⟩ = some (.string ((rd_T34 l0 x16_1).f2)) ∧ w'.cell? ⟨gb197, 3, none⟩ = some (.bool ((rd_T34 l0 x16_1).f3))) (ds := []) #[false, false, false, false, false, false, false, false, false, false, false, false, false, false, false, false, false, false, false, false, false, false, false, false, false, false, false, false] (by kernel_rfl) rfl rfl ⟨(blk_cell BK197.out 0).trans rfl, (blk_cell BK197.out 1).trans rfl, (blk_cell BK197.out 2).trans rfl, (blk_cell BK197.out 3).trans rfl⟩ (fun hHeld => ?_); refine with_tabW impl_TreeOk.tab7 impl_TreeOk.bits7 (fun HT_ HW_ => ?_)
                  generalize w37.drew = w38 at BK197 HM_3 HB hHeld ⊢
                  refine pure_ (i := 0) (N := some 21) (v := ?_) (a' := ?_) #[true, false, false, false, false, false, false, false, false, false, false, false, false, false, false, false, false, false, false, false, false, false, false, false, false, false, false, false] rfl rfl (any_of HT_.out (by kernel_rfl)) (fun _ _ _ h => h) (Or.inl ⟨by rfl, ?_⟩) ?_ ?_
                  rotate_left
                  · intro w'
                    go_simp
                    with_reducible rfl
                  rotate_left
                  · simp only [Act.put, List.setIfInBounds_toArray, List.set_cons_zero, List.set_cons_succ, i64_w, i32_w]
                    rfl
                  refine take_ (i := 1) (N := some 22) (v := ?_) (a' := ?_) #[true, true, false, false, false, false, false, false, false, false, false, false, false, false, false, false, false, false, false, false, false, false, false, false, false, false, false, false] rfl rfl (take_ofW HT_.out HW_.out (by kernel_rfl)) (fun _ _ _ h => h) (Or.inl ⟨by rfl, ?_⟩) hHeld ?_ ?_
                  rotate_left
                  · rintro w' ⟨s0, s1, s2, s3⟩
                    go_simp
                    with_reducible rfl
                  rotate_left
                  · simp only [Act.put, List.setIfInBounds_toArray, List.set_cons_zero, List.set_cons_succ, i64_w, i32_w]
                    rfl
                  refine one_ (i := 2) (N := some 23) #[true, true, true, false, false, false, false, false, false, false, false, false, false, false, false, false, false, false, false, false, false, false, false, false, false, false, false, false] rfl rfl (one_of HT_.out (by kernel_rfl)) (by decide) (fun K hK => ?_)
                  refine goes_ Tryd.func56 (by kernel_rfl) rfl #[.string ((rd_T34 l0 x16_1).f0)] (by rfl) rfl rfl (by (try simp only [List.map_toArray, List.map_cons, List.map_nil]); first | done | rfl | (simp only [List.length_drop, List.length_take]; rfl)) ?_
                  with_reducible refine (impl_pathOk.calls k1 ((rd_T34 l0 x16_1).f0) false _ ?side1 A11.out).mono ?_
                  (case side1 => refine EnvW.below HE.out ?_; repeat (first | (with_reducible first | exact HB.out | apply below_alloc | apply pw_below_drewN | apply below_drew1 | refine below_set ?_ GE197.out) | exact HB.out))
                  rintro e w39 ⟨rfl, hb⟩
                  refine ⟨_, rfl, ?_⟩
                  have n0_ := Aside0.mk (MapAt.below (show MapAt (kkStr Tryd.prog 9 Tryd.underlying9) ekI64 _ gm195 x3_1 from by (with_reducible repeat (first | refine MapAt.alloc ?_ _ | refine MapAt.drewN ?_ _ | refine MapAt.drew ?_)); exact HM_3.out) hb)
                  have n1_ := Aside0.mk (blk_below (g := gb197) (o := .cells #[.string ((rd_T34 l0 x16_1).f0), .int .i64 ((rd_T34 l0 x16_1).f1), .string ((rd_T34 l0 x16_1).f2), .bool ((rd_T34 l0 x16_1).f3)] 34 (0, 0)) (by (with_reducible repeat (first | refine blk_drewN ?_ _ | refine blk_drew ?_ | refine blk_alloc ?_ _)); exact BK197.out) hb)
                  have n2_ := Aside0.mk (below_step (by repeat (first | (with_reducible first | exact HB.out | apply below_alloc | apply pw_below_drewN | apply below_drew1 | refine below_set ?_ GE197.out) | exact HB.out)) hb)
                  clear HM_3
                  clear BK197
                  clear HB
                  have HM_3 := n0_
                  have BK197 := n1_
                  have HB := n2_
                  clear n0_ n1_ n2_
                  (try clear hb)
                  (try clear hb2)
                  (try clear hk)
                  (try clear hi)
                  refine hK.out _ _ ⟨(blk_cell BK197.out 0).trans rfl, (blk_cell BK197.out 1).trans rfl, (blk_cell BK197.out 2).trans rfl, (blk_cell BK197.out 3).trans rfl⟩ (fun hHeld => ?_)
                  clear hK K
                  refine norm_ (a' := ?_) ?_ ?_
                  rotate_left
                  · show Act.put _ (some 23) _ = _
                    simp only [Act.put, List.setIfInBounds_toArray, List.set_cons_zero, List.set_cons_succ, i64_w, i32_w]
                    rfl
                  refine pure_ (i := 3) (N := some 24) (v := ?_) (a' := ?_) #[true, true, true, true, false, false, false, false, false, false, false, false, false, false, false, false, false, false, false, false, false, false, false, false, false, false, false, false] rfl rfl (any_of HT_.out (by kernel_rfl)) (fun _ _ _ h => h) (Or.inl ⟨by rfl, ?_⟩) ?_ ?_
                  rotate_left
                  · intro w'
                    go_simp
                    with_reducible rfl
                  rotate_left
                  · simp only [Act.put, List.setIfInBounds_toArray, List.set_cons_zero, List.set_cons_succ, i64_w, i32_w]
                    rfl
                  refine pure_ (i := 4) (N := some 25) (v := ?_) (a' := ?_) #[true, true, true, true, true, false, false, false, false, false, false, false, false, false, false, false, false, false, false, false, false, false, false, false, false, false, false, false] rfl rfl (any_of HT_.out (by kernel_rfl)) (fun _ _ _ h => h) (Or.inl ⟨by rfl, ?_⟩) ?_ ?_
                  rotate_left
                  · intro w'
                    go_simp
                    with_reducible rfl
                  rotate_left
                  · simp only [Act.put, List.setIfInBounds_toArray, List.set_cons_zero, List.set_cons_succ, i64_w, i32_w]
                    rfl
                  refine pure_ (i := 5) (N := some 26) (v := undef) (a' := ?_) #[true, true, true, true, true, true, false, false, false, false, false, false, false, false, false, false, false, false, false, false, false, false, false, false, false, false, false, false] rfl rfl (any_of HT_.out (by kernel_rfl)) (fun _ _ _ h => h) (Or.inr ⟨by rfl, rfl⟩) ?_ ?_
                  rotate_left
                  · simp only [Act.put, List.setIfInBounds_toArray, List.set_cons_zero, List.set_cons_succ, i64_w, i32_w]
                    rfl
                  refine pure_ (i := 6) (N := some 27) (v := undef) (a' := ?_) #[true, true, true, true, true, true, true, false, false, false, false, false, false, false, false, false, false, false, false, false, false, false, false, false, false, false, false, false] rfl rfl (any_of HT_.out (by kernel_rfl)) (fun _ _ _ h => h) (Or.inr ⟨by rfl, rfl⟩) ?_ ?_
                  rotate_left
                  · simp only [Act.put, List.setIfInBounds_toArray, List.set_cons_zero, List.set_cons_succ, i64_w, i32_w]
                    rfl
                  refine pure_ (i := 7) (N := some 28) (v := undef) (a' := ?_) #[true, true, true, true, true, true, true, true, false, false, false, false, false, false, false, false, false, false, false, false, false, false, false, false, false, false, false, false] rfl rfl (any_of HT_.out (by kernel_rfl)) (fun _ _ _ h => h) (Or.inr ⟨by rfl, rfl⟩) ?_ ?_
                  rotate_left
                  · simp only [Act.put, List.setIfInBounds_toArray, List.set_cons_zero, List.set_cons_succ, i64_w, i32_w]
                    rfl
                  refine pure_ (i := 8) (N := some 29) (v := undef) (a' := ?_) #[true, true, true, true, true, true, true, true, true, false, false, false, false, false, false, false, false, false, false, false, false, false, false, false, false, false, false, false] rfl rfl (any_of HT_.out (by kernel_rfl)) (fun _ _ _ h => h) (Or.inr ⟨by rfl, rfl⟩) ?_ ?_
                  rotate_left
                  · simp only [Act.put, List.setIfInBounds_toArray, List.set_cons_zero, List.set_cons_succ, i64_w, i32_w]
                    rfl
                  refine pure_ (i := 9) (N := some 30) (v := undef) (a' := ?_) #[true, true, true, true, true, true, true, true, true, true, false, false, false, false, false, false, false, false, false, false, false, false, false, false, false, false, false, false] rfl rfl (any_of HT_.out (by kernel_rfl)) (fun _ _ _ h => h) (Or.inr ⟨by rfl, rfl⟩) ?_ ?_
                  rotate_left
                  · simp only [Act.put, List.setIfInBounds_toArray, List.set_cons_zero, List.set_cons_succ, i64_w, i32_w]
                    rfl
                  refine pure_ (i := 10) (N := some 31) (v := undef) (a' := ?_) #[true, true, true, true, true, true, true, true, true, true, true, false, false, false, false, false, false, false, false, false, false, false, false, false, false, false, false, false] rfl rfl (any_of HT_.out (by kernel_rfl)) (fun _ _ _ h => h) (Or.inr ⟨by rfl, rfl⟩) ?_ ?_
                  rotate_left
                  · simp only [Act.put, List.setIfInBounds_toArray, List.set_cons_zero, List.set_cons_succ, i64_w, i32_w]
                    rfl
                  refine pure_ (i := 11) (N := some 32) (v := undef) (a' := ?_) #[true, true, true, true, true, true, true, true, true, true, true, true, false, false, false, false, false, false, false, false, false, false, false, false, false, false, false, false] rfl rfl (any_of HT_.out (by kernel_rfl)) (fun _ _ _ h => h) (Or.inr ⟨by rfl, rfl⟩) ?_ ?_
                  rotate_left
                  · simp only [Act.put, List.setIfInBounds_toArray, List.set_cons_zero, List.set_cons_succ, i64_w, i32_w]
                    rfl
                  refine pure_ (i := 12) (N := some 33) (v := undef) (a' := ?_) #[true, true, true, true, true, true, true, true, true, true, true, true, true, false, false, false, false, false, false, false, false, false, false, false, false, false, false, false] rfl rfl (any_of HT_.out (by kernel_rfl)) (fun _ _ _ h => h) (Or.inr ⟨by rfl, rfl⟩) ?_ ?_
                  rotate_left
                  · simp only [Act.put, List.setIfInBounds_toArray, List.set_cons_zero, List.set_cons_succ, i64_w, i32_w]
                    rfl
                  refine pure_ (i := 13) (N := some 34) (v := undef) (a' := ?_) #[true, true, true, true, true, true, true, true, true, true, true, true, true, true, false, false, false, false, false, false, false, false, false, false, false, false, false, false] rfl rfl (any_of HT_.out (by kernel_rfl)) (fun _ _ _ h => h) (Or.inr ⟨by rfl, rfl⟩) ?_ ?_
                  rotate_left
                  · simp only [Act.put, List.setIfInBounds_toArray, List.set_cons_zero, List.set_cons_succ, i64_w, i32_w]
                    rfl
                  refine pure_ (i := 14) (N := some 35) (v := undef) (a' := ?_) #[true, true, true, true, true, true, true, true, true, true, true, true, true, true, true, false, false, false, false, false, false, false, false, false, false, false, false, false] rfl rfl (any_of HT_.out (by kernel_rfl)) (fun _ _ _ h => h) (Or.inr ⟨by rfl, rfl⟩) ?_ ?_
                  rotate_left
                  · simp only [Act.put, List.setIfInBounds_toArray, List.set_cons_zero, List.set_cons_succ, i64_w, i32_w]
                    rfl
                  refine pure_ (i := 15) (N := some 36) (v := undef) (a' := ?_) #[true, true, true, true, true, true, true, true, true, true, true, true, true, true, true, true, false, false, false, false, false, false, false, false, false, false, false, false] rfl rfl (any_of HT_.out (by kernel_rfl)) (fun _ _ _ h => h) (Or.inr ⟨by rfl, rfl⟩) ?_ ?_
                  rotate_left
                  · simp only [Act.put, List.setIfInBounds_toArray, List.set_cons_zero, List.set_cons_succ, i64_w, i32_w]
                    rfl
                  refine pure_ (i := 16) (N := some 37) (v := undef) (a' := ?_) #[true, true, true, true, true, true, true, true, true, true, true, true, true, true, true, true, true, false, false, false, false, false, false, false, false, false, false, false] rfl rfl (any_of HT_.out (by kernel_rfl)) (fun _ _ _ h => h) (Or.inr ⟨by rfl, rfl⟩) ?_ ?_
                  rotate_left
                  · simp only [Act.put, List.setIfInBounds_toArray, List.set_cons_zero, List.set_cons_succ, i64_w, i32_w]
                    rfl
                  refine pure_ (i := 17) (N := some 38) (v := undef) (a' := ?_) #[true, true, true, true, true, true, true, true, true, true, true, true, true, true, true, true, true, true, false, false, false, false, false, false, false, false, false, false] rfl rfl (any_of HT_.out (by kernel_rfl)) (fun _ _ _ h => h) (Or.inr ⟨by rfl, rfl⟩) ?_ ?_
                  rotate_left
                  · simp only [Act.put, List.setIfInBounds_toArray, List.set_cons_zero, List.set_cons_succ, i64_w, i32_w]
                    rfl
                  refine pure_ (i := 18) (N := some 39) (v := ?_) (a' := ?_) #[true, true, true, true, true, true, true, true, true, true, true, true, true, true, true, true, true, true, true, false, false, false, false, false, false, false, false, false] rfl rfl (any_of HT_.out (by kernel_rfl)) (fun _ _ _ h => h) (Or.inl ⟨by rfl, ?_⟩) ?_ ?_
                  rotate_left
                  · intro w'
                    go_simp
                    with_reducible rfl
                  rotate_left
                  · simp only [Act.put, List.setIfInBounds_toArray, List.set_cons_zero, List.set_cons_succ, i64_w, i32_w]
                    rfl
                  refine pure_ (i := 19) (N := some 40) (v := ?_) (a' := ?_) #[true, true, true, true, true, true, true, true, true, true, true, true, true, true, true, true, true, true, true, true, false, false, false, false, false, false, false, false] rfl rfl (any_of HT_.out (by kernel_rfl)) (fun _ _ _ h => h) (Or.inl ⟨by rfl, ?_⟩) ?_ ?_
                  rotate_left
                  · intro w'
                    go_simp
                    with_reducible rfl
                  rotate_left
                  · simp only [Act.put, List.setIfInBounds_toArray, List.set_cons_zero, List.set_cons_succ, i64_w, i32_w]
                    rfl
                  refine pure_ (i := 20) (N := some 41) (v := undef) (a' := ?_) #[true, true, true, true, true, true, true, true, true, true, true, true, true, true, true, true, true, true, true, true, true, false, false, false, false, false, false, false] rfl rfl (any_of HT_.out (by kernel_rfl)) (fun _ _ _ h => h) (Or.inr ⟨by rfl, rfl⟩) ?_ ?_
                  rotate_left
                  · simp only [Act.put, List.setIfInBounds_toArray, List.set_cons_zero, List.set_cons_succ, i64_w, i32_w]
                    rfl
                  refine pure_ (i := 21) (N := some 42) (v := undef) (a' := ?_) #[true, true, true, true, true, true, true, true, true, true, true, true, true, true, true, true, true, true, true, true, true, true, false, false, false, false, false, false] rfl rfl (any_of HT_.out (by kernel_rfl)) (fun _ _ _ h => h) (Or.inr ⟨by rfl, rfl⟩) ?_ ?_
                  rotate_left
                  · simp only [Act.put, List.setIfInBounds_toArray, List.set_cons_zero, List.set_cons_succ, i64_w, i32_w]
                    rfl
                  refine pure_ (i := 22) (N := some 43) (v := undef) (a' := ?_) #[true, true, true, true, true, true, true, true, true, true, true, true, true, true, true, true, true, true, true, true, true, true, true, false, false, false, false, false] rfl rfl (any_of HT_.out (by kernel_rfl)) (fun _ _ _ h => h) (Or.inr ⟨by rfl, rfl⟩) ?_ ?_
                  rotate_left
                  · simp only [Act.put, List.setIfInBounds_toArray, List.set_cons_zero, List.set_cons_succ, i64_w, i32_w]
                    rfl
                  refine pure_ (i := 23) (N := some 44) (v := undef) (a' := ?_) #[true, true, true, true, true, true, true, true, true, true, true, true, true, true, true, true, true, true, true, true, true, true, true, true, false, false, false, false] rfl rfl (any_of HT_.out (by kernel_rfl)) (fun _ _ _ h => h) (Or.inr ⟨by rfl, rfl⟩) ?_ ?_
                  rotate_left
                  · simp only [Act.put, List.setIfInBounds_toArray, List.set_cons_zero, List.set_cons_succ, i64_w, i32_w]
                    rfl
                  refine pure_ (i := 24) (N := some 45) (v := undef) (a' := ?_) #[true, true, true, true, true, true, true, true, true, true, true, true, true, true, true, true, true, true, true, true, true, true, true, true, true, false, false, false] rfl rfl (any_of HT_.out (by kernel_rfl)) (fun _ _ _ h => h) (Or.inr ⟨by rfl, rfl⟩) ?_ ?_
                  rotate_left
                  · simp only [Act.put, List.setIfInBounds_toArray, List.set_cons_zero, List.set_cons_succ, i64_w, i32_w]
                    rfl
                  refine pure_ (i := 25) (N := some 46) (v := undef) (a' := ?_) #[true, true, true, true, true, true, true, true, true, true, true, true, true, true, true, true, true, true, true, true, true, true, true, true, true, true, false, false] rfl rfl (any_of HT_.out (by kernel_rfl)) (fun _ _ _ h => h) (Or.inr ⟨by rfl, rfl⟩) ?_ ?_
                  rotate_left
                  · simp only [Act.put, List.setIfInBounds_toArray, List.set_cons_zero, List.set_cons_succ, i64_w, i32_w]
                    rfl
                  refine pure_ (i := 26) (N := some 47) (v := undef) (a' := ?_) #[true, true, true, true, true, true, true, true, true, true, true, true, true, true, true, true, true, true, true, true, true, true, true, true, true, true, true, false] rfl rfl (any_of HT_.out (by kernel_rfl)) (fun _ _ _ h => h) (Or.inr ⟨by rfl, rfl⟩) ?_ ?_
                  rotate_left
                  · simp only [Act.put, List.setIfInBounds_toArray, List.set_cons_zero, List.set_cons_succ, i64_w, i32_w]
                    rfl
                  refine pure_ (i := 27) (N := some 48) (v := ?_) (a' := ?_) #[true, true, true, true, true, true, true, true, true, true, true, true, true, true, true, true, true, true, true, true, true, true, true, true, true, true, true, true] rfl rfl (any_of HT_.out (by kernel_rfl)) (fun _ _ _ h => h) (Or.inl ⟨by rfl, ?_⟩) ?_ ?_
                  rotate_left
                  · intro w'
                    go_simp
                    with_reducible rfl
                  rotate_left
                  · simp only [Act.put, List.setIfInBounds_toArray, List.set_cons_zero, List.set_cons_succ, i64_w, i32_w]
                    rfl
                  refine done_ (done_of HT_.out (by kernel_rfl)) ?_
                  try go_wp2
                  go_meet
                  case rel => exact ⟨_, (true), (by first | rfl | (simp; done) | (simp [*]; done)), H', ⟨by have := HK1.out; first | omega | exact Nat.le_refl _⟩, ⟨show MapAt (kkStr Tryd.prog 9 Tryd.underlying9) ekI64 _ gm195 x3_1 from by (with_reducible repeat (first | refine MapAt.alloc ?_ _ | refine MapAt.drewN ?_ _ | refine MapAt.drew ?_)); exact HM_3.out⟩, ⟨by (with_reducible repeat (first | refine blk_drewN ?_ _ | refine blk_drew ?_ | refine blk_alloc ?_ _)); exact BK197.out⟩, ⟨by repeat (first | (with_reducible first | exact HB.out | apply below_alloc | apply pw_below_drewN | apply below_drew1 | refine below_set ?_ GE197.out) | exact HB.out)⟩⟩
              case rest =>
                clear HC8
                try clear c1
                try clear p2
                try clear q2
                try clear c3
                try clear c5
                try clear c12
                try clear q29
                try clear c30
                obtain ⟨kq, x48_7, rfl, HA, HJ7, HM_3, BK197, HB⟩ := hcut
                cases kq with
                | zero => exact absurd HA.out (by simp [impl_TreeOk.j1])
                | succ kj7 =>
                  have H := HA.out
                  clear HA
                  simp only [impl_TreeOk.j1] at H
                  by_cases c40 : x48_7 = true
                  · subst c40
                    have H1 : (some false) = some r := by rw [if_pos rfl] at H; exact H
                    clear H
                    have H := H1
                    clear H1
                    obtain rfl := Option.some.inj H
                    go_wp2
                    go_ret
                    exact ⟨by first | rfl | (simp [errW_none, errW_some] <;> rfl) | (simp [*, errW_none, errW_some] <;> rfl), by repeat (first | (with_reducible first | exact HB.out | apply below_alloc | apply pw_below_drewN | apply below_drew1 | refine below_set ?_ GE197.out) | exact HB.out)⟩
                  · replace c40 := Bool.eq_false_iff.mpr c40
                    subst c40
                    have H1 : (if ((rd_T34 l0 x16_1).f1) = 1 then (if ((rd_T34 l0 x16_1).f2).toList = ([] : List UInt8) then (if x3_1.length < 1099511627776 then (if ((rd_T34 l0 x16_1).f0).size ≤ 9223372036854775807 then (impl_TreeOk.l0 kj7 l0 (x3_1 ++ [(((rd_T34 l0 x16_1).f0), 1)]) l0 (l0.length : Int) (wrap64 (x16_1 + 1))) else (none)) else (none)) else (some false)) else (if ((rd_T34 l0 x16_1).f1) = 2 then (if (((rd_T34 l0 x16_1).f2).size : Int) > 20000 then (some false) else (impl_TreeOk.l0 kj7 l0 x3_1 l0 (l0.length : Int) (wrap64 (x16_1 + 1)))) else (if ((rd_T34 l0 x16_1).f1) = 3 then (if (((rd_T34 l0 x16_1).f2).size : Int) < 1 then (some false) else (if (((rd_T34 l0 x16_1).f2).size : Int) > 20000 then (some false) else (impl_TreeOk.l0 kj7 l0 x3_1 l0 (l0.length : Int) (wrap64 (x16_1 + 1))))) else (some false)))) = some r := by rw [if_neg (show ¬ (false = true) by decide)] at H; exact H
                    clear H
                    have H := H1
                    clear H1
                    by_cases c41 : ((rd_T34 l0 x16_1).f1) = 1
                    · rw [if_pos c41] at H
                      have c41b0 : (((rd_T34 l0 x16_1).f1) == 1) = true := beq_iff_eq.mpr c41
                      have c41b1 : (((rd_T34 l0 x16_1).f1) != 1) = false := bne_eq_false_iff_eq.mpr c41
                      clear c41
                      by_cases c42 : ((rd_T34 l0 x16_1).f2).toList = ([] : List UInt8)
                      · rw [if_pos c42] at H
                        have c42b0 : (((rd_T34 l0 x16_1).f2).toList == ([] : List UInt8)) = true := beq_iff_eq.mpr c42
                        have c42b1 : (((rd_T34 l0 x16_1).f2).toList != ([] : List UInt8)) = false := bne_eq_false_iff_eq.mpr c42
                        clear c42
                        by_cases c43 : x3_1.length < 1099511627776
                        · rw [if_pos c43] at H
                          have LMc43 := Aside0.mk c43
                          clear c43
                          by_cases c44 : ((rd_T34 l0 x16_1).f0).size ≤ 9223372036854775807
                          · rw [if_pos c44] at H
                            have c44b0 := eq_true c44
                            have c44b1 : decide (((rd_T34 l0 x16_1).f0).size ≤ 9223372036854775807) = true := decide_eq_true c44
                            try have c44b2 : (9223372036854775807 < ((rd_T34 l0 x16_1).f0).size) = False := eq_false (Nat.not_lt.2 c44)
                            clear c44
                            obtain ⟨y200, hy200⟩ : ∃ y_ : List (ByteArray × Int), y_ = (x3_1 ++ [(((rd_T34 l0 x16_1).f0), 1)]) := ⟨_, rfl⟩
                            replace H : (impl_TreeOk.l0 kj7 l0 y200 l0 (l0.length : Int) (wrap64 (x16_1 + 1))) = some r := by first | (rw [hy200]; with_reducible exact H) | (have H2_ := (Option.bind_some _ _).symm.trans H; rw [hy200]; with_reducible exact H2_) | (have H2_ := (Option.bind_some _ _).symm.trans H; with_reducible exact H2_) | with_reducible exact H | (rw [hy200]; exact H) | exact H
                            have Ny200 := Aside0.mk hy200
                            clear hy200
                            have H' := Aside0.mk H
                            clear H
                            have hcz45_0 : wc.cell? ⟨gb197, 0, none⟩ = some (.string ((rd_T34 l0 x16_1).f0)) := (blk_cell BK197.out 0).trans rfl
                            have hcz45_1 : wc.cell? ⟨gb197, 1, none⟩ = some (.int .i64 ((rd_T34 l0 x16_1).f1)) := (blk_cell BK197.out 1).trans rfl
                            have hcz45_2 : wc.cell? ⟨gb197, 2, none⟩ = some (.string ((rd_T34 l0 x16_1).f2)) := (blk_cell BK197.out 2).trans rfl
                            have hcz45_3 : wc.cell? ⟨gb197, 3, none⟩ = some (.bool ((rd_T34 l0 x16_1).f3)) := (blk_cell BK197.out 3).trans rfl
                            have hfz45_0 := blk_frozen BK197.out 0
                            have hfz45_1 := blk_frozen BK197.out 1
                            have hfz45_2 := blk_frozen BK197.out 2
                            have hfz45_3 := blk_frozen BK197.out 3
                            go_wp2_with (first | ((with_reducible refine gate_put (t := 72) (p := 56) rfl ?_); (try (refine gate_guard (by rfl) ?_; dsimp only)); refine map_put (kkStr Tryd.prog 9 Tryd.underlying9) ekI64 rfl 72 3 56 _ _ rfl Tryd.underlying72 gm195 x3_1 ((rd_T34 l0 x16_1).f0) 1 rfl rfl (show ((rd_T34 l0 x16_1).f0).size ≤ 9223372036854775807 from by first | assumption | exact of_eq_true (by assumption) | exact of_decide_eq_true (by assumption) | decide | omega) rfl (by (with_reducible repeat (first | refine MapAt.alloc ?_ _ | refine MapAt.drewN ?_ _ | refine MapAt.drew ?_)); exact HM_3.out) LMc43.out ?_; intro w46 hmp hg; rw [← Ny200.out] at hmp; have n0_ := Aside0.mk (hmp); have n1_ := Aside0.mk (far_blk (show MapAt (kkStr Tryd.prog 9 Tryd.underlying9) ekI64 _ gm195 x3_1 from by (with_reducible repeat (first | refine MapAt.alloc ?_ _ | refine MapAt.drewN ?_ _ | refine MapAt.drew ?_)); exact HM_3.out) hg (by (with_reducible repeat (first | refine blk_drewN ?_ _ | refine blk_drew ?_ | refine blk_alloc ?_ _)); exact BK197.out)); have n2_ := Aside0.mk (far_below GMgm195.out (below_size (by repeat (first | (with_reducible first | exact HB.out | apply below_alloc | apply pw_below_drewN | apply below_drew1 | refine below_set ?_ GE197.out) | exact HB.out))) hg (by repeat (first | (with_reducible first | exact HB.out | apply below_alloc | apply pw_below_drewN | apply below_drew1 | refine below_set ?_ GE197.out) | exact HB.out))); clear HM_3; clear BK197; clear HB; have HM_3 := n0_; have BK197 := n1_; have HB := n2_; clear n0_ n1_ n2_; clear hmp hg))
                            go_roundg kj7
                            case measure => have := HK1.out; have := HJ7.out; omega
                            case rel => exact ⟨(y200), (wrap64 (x16_1 + 1)), (by first | rfl | (simp; done) | (simp [*]; done)), H', ⟨by have := HK1.out; have := HJ7.out; omega⟩, ⟨show MapAt (kkStr Tryd.prog 9 Tryd.underlying9) ekI64 _ gm195 y200 from by (with_reducible repeat (first | refine MapAt.alloc ?_ _ | refine MapAt.drewN ?_ _ | refine MapAt.drew ?_)); exact HM_3.out⟩, ⟨by repeat (first | (with_reducible first | exact HB.out | apply below_alloc | apply pw_below_drewN | apply below_drew1 | refine below_set ?_ GE197.out) | exact HB.out)⟩⟩
                          · rw [if_neg c44] at H
                            exact absurd H (by simp)
                        · rw [if_neg c43] at H
                          exact absurd H (by simp)
                      · rw [if_neg c42] at H
                        have c42b0 : (((rd_T34 l0 x16_1).f2).toList == ([] : List UInt8)) = false := beq_eq_false_iff_ne.mpr c42
                        have c42b1 : (((rd_T34 l0 x16_1).f2).toList != ([] : List UInt8)) = true := bne_iff_ne.mpr c42
                        obtain rfl := Option.some.inj H
                        have hcz47_0 : wc.cell? ⟨gb197, 0, none⟩ = some (.string ((rd_T34 l0 x16_1).f0)) := (blk_cell BK197.out 0).trans rfl
                        have hcz47_1 : wc.cell? ⟨gb197, 1, none⟩ = some (.int .i64 ((rd_T34 l0 x16_1).f1)) := (blk_cell BK197.out 1).trans rfl
                        have hcz47_2 : wc.cell? ⟨gb197, 2, none⟩ = some (.string ((rd_T34 l0 x16_1).f2)) := (blk_cell BK197.out 2).trans rfl
                        have hcz47_3 : wc.cell? ⟨gb197, 3, none⟩ = some (.bool ((rd_T34 l0 x16_1).f3)) := (blk_cell BK197.out 3).trans rfl
                        have hfz47_0 := blk_frozen BK197.out 0
                        have hfz47_1 := blk_frozen BK197.out 1
                        have hfz47_2 := blk_frozen BK197.out 2
                        have hfz47_3 := blk_frozen BK197.out 3
                        go_wp2
                        go_ret
                        exact ⟨by first | rfl | (simp [errW_none, errW_some] <;> rfl) | (simp [*, errW_none, errW_some] <;> rfl), by repeat (first | (with_reducible first | exact HB.out | apply below_alloc | apply pw_below_drewN | apply below_drew1 | refine below_set ?_ GE197.out) | exact HB.out)⟩
                    · rw [if_neg c41] at H
                      have c41b0 : (((rd_T34 l0 x16_1).f1) == 1) = false := beq_eq_false_iff_ne.mpr c41
                      have c41b1 : (((rd_T34 l0 x16_1).f1) != 1) = true := bne_iff_ne.mpr c41
                      by_cases c48 : ((rd_T34 l0 x16_1).f1) = 2
                      · rw [if_pos c48] at H
                        have c48b0 : (((rd_T34 l0 x16_1).f1) == 2) = true := beq_iff_eq.mpr c48
                        have c48b1 : (((rd_T34 l0 x16_1).f1) != 2) = false := bne_eq_false_iff_eq.mpr c48
                        clear c48
                        by_cases c49 : (((rd_T34 l0 x16_1).f2).size : Int) > 20000
                        · rw [if_pos c49] at H
                          have c49b0 : decide (20000 < (((rd_T34 l0 x16_1).f2).size : Int)) = true := decide_eq_true c49
                          have c49b1 : decide (20000 < ((rd_T34 l0 x16_1).f2).size) = true := decide_eq_true (by omega)
                          clear c49
                          obtain rfl := Option.some.inj H
                          have hcz50_0 : wc.cell? ⟨gb197, 0, none⟩ = some (.string ((rd_T34 l0 x16_1).f0)) := (blk_cell BK197.out 0).trans rfl
                          have hcz50_1 : wc.cell? ⟨gb197, 1, none⟩ = some (.int .i64 ((rd_T34 l0 x16_1).f1)) := (blk_cell BK197.out 1).trans rfl
                          have hcz50_2 : wc.cell? ⟨gb197, 2, none⟩ = some (.string ((rd_T34 l0 x16_1).f2)) := (blk_cell BK197.out 2).trans rfl
                          have hcz50_3 : wc.cell? ⟨gb197, 3, none⟩ = some (.bool ((rd_T34 l0 x16_1).f3)) := (blk_cell BK197.out 3).trans rfl
                          have hfz50_0 := blk_frozen BK197.out 0
                          have hfz50_1 := blk_frozen BK197.out 1
                          have hfz50_2 := blk_frozen BK197.out 2
                          have hfz50_3 := blk_frozen BK197.out 3
                          go_wp2
                          go_ret
                          exact ⟨by first | rfl | (simp [errW_none, errW_some] <;> rfl) | (simp [*, errW_none, errW_some] <;> rfl), by repeat (first | (with_reducible first | exact HB.out | apply below_alloc | apply pw_below_drewN | apply below_drew1 | refine below_set ?_ GE197.out) | exact HB.out)⟩
                        · rw [if_neg c49] at H
                          have c49b0 : decide (20000 < (((rd_T34 l0 x16_1).f2).size : Int)) = false := decide_eq_false c49
                          have c49b1 : decide (20000 < ((rd_T34 l0 x16_1).f2).size) = false := decide_eq_false (by omega)
                          clear c49
                          have H' := Aside0.mk H
                          clear H
                          have hcz51_0 : wc.cell? ⟨gb197, 0, none⟩ = some (.string ((rd_T34 l0 x16_1).f0)) := (blk_cell BK197.out 0).trans rfl
                          have hcz51_1 : wc.cell? ⟨gb197, 1, none⟩ = some (.int .i64 ((rd_T34 l0 x16_1).f1)) := (blk_cell BK197.out 1).trans rfl
                          have hcz51_2 : wc.cell? ⟨gb197, 2, none⟩ = some (.string ((rd_T34 l0 x16_1).f2)) := (blk_cell BK197.out 2).trans rfl
                          have hcz51_3 : wc.cell? ⟨gb197, 3, none⟩ = some (.bool ((rd_T34 l0 x16_1).f3)) := (blk_cell BK197.out 3).trans rfl
                          have hfz51_0 := blk_frozen BK197.out 0
                          have hfz51_1 := blk_frozen BK197.out 1
                          have hfz51_2 := blk_frozen BK197.out 2
                          have hfz51_3 := blk_frozen BK197.out 3
                          go_wp2
                          go_roundg kj7
                          case measure => have := HK1.out; have := HJ7.out; omega
                          case rel => exact ⟨(x3_1), (wrap64 (x16_1 + 1)), (by first | rfl | (simp; done) | (simp [*]; done)), H', ⟨by have := HK1.out; have := HJ7.out; omega⟩, ⟨show MapAt (kkStr Tryd.prog 9 Tryd.underlying9) ekI64 _ gm195 x3_1 from by (with_reducible repeat (first | refine MapAt.alloc ?_ _ | refine MapAt.drewN ?_ _ | refine MapAt.drew ?_)); exact HM_3.out⟩, ⟨by repeat (first | (with_reducible first | exact HB.out | apply below_alloc | apply pw_below_drewN | apply below_drew1 | refine below_set ?_ GE197.out) | exact HB.out)⟩⟩
                      · rw [if_neg c48] at H
                        have c48b0 : (((rd_T34 l0 x16_1).f1) == 2) = false := beq_eq_false_iff_ne.mpr c48
                        have c48b1 : (((rd_T34 l0 x16_1).f1) != 2) = true := bne_iff_ne.mpr c48
                        by_cases c52 : ((rd_T34 l0 x16_1).f1) = 3
                        · rw [if_pos c52] at H
                          have c52b0 : (((rd_T34 l0 x16_1).f1) == 3) = true := beq_iff_eq.mpr c52
                          have c52b1 : (((rd_T34 l0 x16_1).f1) != 3) = false := bne_eq_false_iff_eq.mpr c52
                          clear c52
                          by_cases c53 : (((rd_T34 l0 x16_1).f2).size : Int) < 1
                          · rw [if_pos c53] at H
                            have c53b0 : decide ((((rd_T34 l0 x16_1).f2).size : Int) < 1) = true := decide_eq_true c53
                            have c53b1 : decide (((rd_T34 l0 x16_1).f2).size < 1) = true := decide_eq_true (by omega)
                            clear c53
                            obtain rfl := Option.some.inj H
                            have hcz54_0 : wc.cell? ⟨gb197, 0, none⟩ = some (.string ((rd_T34 l0 x16_1).f0)) := (blk_cell BK197.out 0).trans rfl
                            have hcz54_1 : wc.cell? ⟨gb197, 1, none⟩ = some (.int .i64 ((rd_T34 l0 x16_1).f1)) := (blk_cell BK197.out 1).trans rfl
                            have hcz54_2 : wc.cell? ⟨gb197, 2, none⟩ = some (.string ((rd_T34 l0 x16_1).f2)) := (blk_cell BK197.out 2).trans rfl
                            have hcz54_3 : wc.cell? ⟨gb197, 3, none⟩ = some (.bool ((rd_T34 l0 x16_1).f3)) := (blk_cell BK197.out 3).trans rfl
                            have hfz54_0 := blk_frozen BK197.out 0
                            have hfz54_1 := blk_frozen BK197.out 1
                            have hfz54_2 := blk_frozen BK197.out 2
                            have hfz54_3 := blk_frozen BK197.out 3
                            go_wp2
                            go_ret
                            exact ⟨by first | rfl | (simp [errW_none, errW_some] <;> rfl) | (simp [*, errW_none, errW_some] <;> rfl), by repeat (first | (with_reducible first | exact HB.out | apply below_alloc | apply pw_below_drewN | apply below_drew1 | refine below_set ?_ GE197.out) | exact HB.out)⟩
                          · rw [if_neg c53] at H
                            have c53b0 : decide ((((rd_T34 l0 x16_1).f2).size : Int) < 1) = false := decide_eq_false c53
                            have c53b1 : decide (((rd_T34 l0 x16_1).f2).size < 1) = false := decide_eq_false (by omega)
                            clear c53
                            by_cases c55 : (((rd_T34 l0 x16_1).f2).size : Int) > 20000
                            · rw [if_pos c55] at H
                              have c55b0 : decide (20000 < (((rd_T34 l0 x16_1).f2).size : Int)) = true := decide_eq_true c55
                              have c55b1 : decide (20000 < ((rd_T34 l0 x16_1).f2).size) = true := decide_eq_true (by omega)
                              clear c55
                              obtain rfl := Option.some.inj H
                              have hcz56_0 : wc.cell? ⟨gb197, 0, none⟩ = some (.string ((rd_T34 l0 x16_1).f0)) := (blk_cell BK197.out 0).trans rfl
                              have hcz56_1 : wc.cell? ⟨gb197, 1, none⟩ = some (.int .i64 ((rd_T34 l0 x16_1).f1)) := (blk_cell BK197.out 1).trans rfl
                              have hcz56_2 : wc.cell? ⟨gb197, 2, none⟩ = some (.string ((rd_T34 l0 x16_1).f2)) := (blk_cell BK197.out 2).trans rfl
                              have hcz56_3 : wc.cell? ⟨gb197, 3, none⟩ = some (.bool ((rd_T34 l0 x16_1).f3)) := (blk_cell BK197.out 3).trans rfl
                              have hfz56_0 := blk_frozen BK197.out 0
                              have hfz56_1 := blk_frozen BK197.out 1
                              have hfz56_2 := blk_frozen BK197.out 2
                              have hfz56_3 := blk_frozen BK197.out 3
                              go_wp2
                              go_ret
                              exact ⟨by first | rfl | (simp [errW_none, errW_some] <;> rfl) | (simp [*, errW_none, errW_some] <;> rfl), by repeat (first | (with_reducible first | exact HB.out | apply below_alloc | apply pw_below_drewN | apply below_drew1 | refine below_set ?_ GE197.out) | exact HB.out)⟩
                            · rw [if_neg c55] at H
                              have c55b0 : decide (20000 < (((rd_T34 l0 x16_1).f2).size : Int)) = false := decide_eq_false c55
                              have c55b1 : decide (20000 < ((rd_T34 l0 x16_1).f2).size) = false := decide_eq_false (by omega)
                              clear c55
                              have H' := Aside0.mk H
                              clear H
                              have hcz57_0 : wc.cell? ⟨gb197, 0, none⟩ = some (.string ((rd_T34 l0 x16_1).f0)) := (blk_cell BK197.out 0).trans rfl
                              have hcz57_1 : wc.cell? ⟨gb197, 1, none⟩ = some (.int .i64 ((rd_T34 l0 x16_1).f1)) := (blk_cell BK197.out 1).trans rfl
                              have hcz57_2 : wc.cell? ⟨gb197, 2, none⟩ = some (.string ((rd_T34 l0 x16_1).f2)) := (blk_cell BK197.out 2).trans rfl
                              have hcz57_3 : wc.cell? ⟨gb197, 3, none⟩ = some (.bool ((rd_T34 l0 x16_1).f3)) := (blk_cell BK197.out 3).trans rfl
                              have hfz57_0 := blk_frozen BK197.out 0
                              have hfz57_1 := blk_frozen BK197.out 1
                              have hfz57_2 := blk_frozen BK197.out 2
                              have hfz57_3 := blk_frozen BK197.out 3
                              go_wp2
                              go_roundg kj7
                              case measure => have := HK1.out; have := HJ7.out; omega
                              case rel => exact ⟨(x3_1), (wrap64 (x16_1 + 1)), (by first | rfl | (simp; done) | (simp [*]; done)), H', ⟨by have := HK1.out; have := HJ7.out; omega⟩, ⟨show MapAt (kkStr Tryd.prog 9 Tryd.underlying9) ekI64 _ gm195 x3_1 from by (with_reducible repeat (first | refine MapAt.alloc ?_ _ | refine MapAt.drewN ?_ _ | refine MapAt.drew ?_)); exact HM_3.out⟩, ⟨by repeat (first | (with_reducible first | exact HB.out | apply below_alloc | apply pw_below_drewN | apply below_drew1 | refine below_set ?_ GE197.out) | exact HB.out)⟩⟩
                        · rw [if_neg c52] at H
                          have c52b0 : (((rd_T34 l0 x16_1).f1) == 3) = false := beq_eq_false_iff_ne.mpr c52
                          have c52b1 : (((rd_T34 l0 x16_1).f1) != 3) = true := bne_iff_ne.mpr c52
                          obtain rfl := Option.some.inj H
                          have hcz58_0 : wc.cell? ⟨gb197, 0, none⟩ = some (.string ((rd_T34 l0 x16_1).f0)) := (blk_cell BK197.out 0).trans rfl
                          have hcz58_1 : wc.cell? ⟨gb197, 1, none⟩ = some (.int .i64 ((rd_T34 l0 x16_1).f1)) := (blk_cell BK197.out 1).trans rfl
                          have hcz58_2 : wc.cell? ⟨gb197, 2, none⟩ = some (.string ((rd_T34 l0 x16_1).f2)) := (blk_cell BK197.out 2).trans rfl
                          have hcz58_3 : wc.cell? ⟨gb197, 3, none⟩ = some (.bool ((rd_T34 l0 x16_1).f3)) := (blk_cell BK197.out 3).trans rfl
                          have hfz58_0 := blk_frozen BK197.out 0
                          have hfz58_1 := blk_frozen BK197.out 1
                          have hfz58_2 := blk_frozen BK197.out 2
                          have hfz58_3 := blk_frozen BK197.out 3
                          go_wp2
                          go_ret
                          exact ⟨by first | rfl | (simp [errW_none, errW_some] <;> rfl) | (simp [*, errW_none, errW_some] <;> rfl), by repeat (first | (with_reducible first | exact HB.out | apply below_alloc | apply pw_below_drewN | apply below_drew1 | refine below_set ?_ GE197.out) | exact HB.out)⟩
            · rw [if_neg c7] at H
              exact absurd H (by simp)
          · rw [if_neg c6] at H
            exact absurd H (by simp)
        · rw [if_neg c5] at H
          have c5b0 : decide (x16_1 < (l0.length : Int)) = false := decide_eq_false c5
          clear c5
          have H' := Aside0.mk H
          clear H
          go_wp2
          go_loopg [80] k1 (fun kq v80 w' => ∃ (x80_2 : Int), v80 = .int .i64 x80_2 ∧ Aside0 (impl_TreeOk.l1 kq x3_1 l0 (l0.length : Int) x80_2 = some r) ∧ Aside0 (kq ≤ k1) ∧ Aside0 (MapAt (kkStr Tryd.prog 9 Tryd.underlying9) ekI64 w' gm195 x3_1) ∧ Aside0 (Below w.heap.size w w'))
          case atStart => exact ⟨(0), (by first | rfl | (simp; done) | (simp [*]; done)), H', ⟨Nat.le_refl _⟩, ⟨show MapAt (kkStr Tryd.prog 9 Tryd.underlying9) ekI64 _ gm195 x3_1 from by (with_reducible repeat (first | refine MapAt.alloc ?_ _ | refine MapAt.drewN ?_ _ | refine MapAt.drew ?_)); exact HM_3.out⟩, ⟨by repeat (first | (with_reducible first | exact HB.out | apply below_alloc | apply pw_below_drewN | apply below_drew1) | exact HB.out)⟩⟩
          case round =>
            clear H'
            try clear c1
            try clear p2
            try clear q2
            try clear c3
            try clear c4
            try clear c5
            try clear c5b0
            try clear c6
            try clear p6
            try clear c7
            try clear c12
            try clear q29
            try clear c30
            try clear c40
            try clear c41
            try clear c41b0
            try clear c41b1
            try clear c42
            try clear c42b0
            try clear c42b1
            try clear c43
            try clear c44
            try clear c44b0
            try clear c44b1
            try clear c44b2
            try clear c48
            try clear c48b0
            try clear c48b1
            try clear c49
            try clear c49b0
            try clear c49b1
            try clear c52
            try clear c52b0
            try clear c52b1
            try clear c53
            try clear c53b0
            try clear c53b1
            try clear c55
            try clear c55b0
            try clear c55b1
            try clear c56
            try clear hcz45_0
            try clear hcz45_1
            try clear hcz45_2
            try clear hcz45_3
            try clear hcz47_0
            try clear hcz47_1
            try clear hcz47_2
            try clear hcz47_3
            try clear hcz50_0
            try clear hcz50_1
            try clear hcz50_2
            try clear hcz50_3
            try clear hcz51_0
            try clear hcz51_1
            try clear hcz51_2
            try clear hcz51_3
            try clear hcz54_0
            try clear hcz54_1
            try clear hcz54_2
            try clear hcz54_3
            try clear hcz56_0
            try clear hcz56_1
            try clear hcz56_2
            try clear hcz56_3
            try clear hcz57_0
            try clear hcz57_1
            try clear hcz57_2
            try clear hcz57_3
            try clear hcz58_0
            try clear hcz58_1
            try clear hcz58_2
            try clear hcz58_3
            try clear hfz45_0
            try clear hfz45_1
            try clear hfz45_2
            try clear hfz45_3
            try clear hfz47_0
            try clear hfz47_1
            try clear hfz47_2
            try clear hfz47_3
            try clear hfz50_0
            try clear hfz50_1
            try clear hfz50_2
            try clear hfz50_3
            try clear hfz51_0
            try clear hfz51_1
            try clear hfz51_2
            try clear hfz51_3
            try clear hfz54_0
            try clear hfz54_1
            try clear hfz54_2
            try clear hfz54_3
            try clear hfz56_0
            try clear hfz56_1
            try clear hfz56_2
            try clear hfz56_3
            try clear hfz57_0
            try clear hfz57_1
            try clear hfz57_2
            try clear hfz57_3
            try clear hfz58_0
            try clear hfz58_1
            try clear hfz58_2
            try clear hfz58_3
            try clear p2
            try clear q2
            try clear q29
            obtain ⟨x80_2, rfl, HA, HK2, HM_3, HB⟩ := hrel
            cases gk with
            | zero => exact absurd HA.out (by simp [impl_TreeOk.l1])
            | succ k2 =>
              have H := HA.out
              clear HA
              simp only [impl_TreeOk.l1] at H
              by_cases c59 : x80_2 < (l0.length : Int)
              · rw [if_pos c59] at H
                have c59b0 : decide (x80_2 < (l0.length : Int)) = true := decide_eq_true c59
                clear c59
                by_cases c60 : 0 ≤ x80_2
                · rw [if_pos c60] at H
                  have c60b0 : decide (0 ≤ x80_2) = true := decide_eq_true c60
                  clear c60
                  by_cases c61 : x80_2 < (l0.length : Int)
                  · rw [if_pos c61] at H
                    have c61b0 : decide (x80_2 < (l0.length : Int)) = true := decide_eq_true c61
                    clear c61
                    replace H := Option.bind_eq_some_iff.mp H
                    obtain ⟨⟨t203, t204⟩, A620, H⟩ := H
                    replace H : (if t204 = true then (if t203.size ≤ 9223372036854775807 then (if (mgetD 0 x3_1 t203) = 0 then (some false) else (impl_TreeOk.l1 k2 x3_1 l0 (l0.length : Int) (wrap64 (x80_2 + 1)))) else (none)) else (impl_TreeOk.l1 k2 x3_1 l0 (l0.length : Int) (wrap64 (x80_2 + 1)))) = some r := H
                    have A62 := Aside0.mk A620
                    clear A620
                    by_cases c63 : t204 = true
                    · subst c63
                      have H1 : (if t203.size ≤ 9223372036854775807 then (if (mgetD 0 x3_1 t203) = 0 then (some false) else (impl_TreeOk.l1 k2 x3_1 l0 (l0.length : Int) (wrap64 (x80_2 + 1)))) else (none)) = some r := by rw [if_pos rfl] at H; exact H
                      clear H
                      have H := H1
                      clear H1
                      by_cases c64 : t203.size ≤ 9223372036854775807
                      · rw [if_pos c64] at H
                        have c64b0 := eq_true c64
                        have c64b1 : decide (t203.size ≤ 9223372036854775807) = true := decide_eq_true c64
                        try have c64b2 : (9223372036854775807 < t203.size) = False := eq_false (Nat.not_lt.2 c64)
                        clear c64
                        by_cases c65 : (mgetD 0 x3_1 t203) = 0
                        · rw [if_pos c65] at H
                          have c65b0 : ((mgetD 0 x3_1 t203) == 0) = true := beq_iff_eq.mpr c65
                          have c65b1 : ((mgetD 0 x3_1 t203) != 0) = false := bne_eq_false_iff_eq.mpr c65
                          clear c65
                          obtain rfl := Option.some.inj H
                          have p201 : 0 ≤ (x80_2 : Int) := of_decide_eq_true (by first | (with_reducible assumption) | assumption)
                          have q201 : x80_2 < (l0.length : Int) := of_decide_eq_true (by first | (with_reducible assumption) | assumption)
                          obtain ⟨ad201, e201, hx201_0, hx201_1, hx201_2, hx201_3⟩ := at_T34 HR0.out x80_2 p201 q201
                          cases e201
                          replace hx201_0 := (HB.out.cell (World.block_lt_of_cell? w _ hx201_0)).trans hx201_0
                          replace hx201_1 := (HB.out.cell (World.block_lt_of_cell? w _ hx201_1)).trans hx201_1
                          replace hx201_2 := (HB.out.cell (World.block_lt_of_cell? w _ hx201_2)).trans hx201_2
                          replace hx201_3 := (HB.out.cell (World.block_lt_of_cell? w _ hx201_3)).trans hx201_3
                          replace p201 := eq_true p201
                          replace q201 := eq_true q201
                          go_wp2_with (first | ((with_reducible refine gate_dst (N := 7) rfl ?_); (try (refine gate_guard (by rfl) ?_; dsimp only)); refine box_event ?hg (N := 7) ?hd (cs := #[.string (⟨#[]⟩ : ByteArray), .int .i64 0, .string (⟨#[]⟩ : ByteArray), .bool false]) (t := 34) ?hr ?_; (case hd => rfl); (case hg => rfl); (case hr => first | (go_simp; done) | (go_simp; rfl)); intro gb202 hg w66 hbox hb; have n0_ := Aside0.mk (MapAt.below (show MapAt (kkStr Tryd.prog 9 Tryd.underlying9) ekI64 _ gm195 x3_1 from by (with_reducible repeat (first | refine MapAt.alloc ?_ _ | refine MapAt.drewN ?_ _ | refine MapAt.drew ?_)); exact HM_3.out) hb); have n1_ := Aside0.mk (below_step (by repeat (first | (with_reducible first | exact HB.out | apply below_alloc | apply pw_below_drewN | apply below_drew1) | exact HB.out)) hb); have n2_ := Aside0.mk (hbox); have n3_ := Aside0.mk ((by rw [hg]; exact (below_size (by repeat (first | (with_reducible first | exact HB.out | apply below_alloc | apply pw_below_drewN | apply below_drew1) | exact HB.out))) : w.heap.size ≤ gb202)); have n4_ := Aside0.mk ((by rw [hg]; exact (below_size (by repeat (first | (with_reducible first | exact HB.out | apply below_alloc | apply pw_below_drewN | apply below_drew1) | exact HB.out))) : w.heap.size ≤ gb202)); clear HM_3; clear HB; have HM_3 := n0_; have HB := n1_; have BK202 := n2_; have GW202 := n3_; have GE202 := n4_; clear n0_ n1_ n2_ n3_ n4_; clear hb hbox hg; have hcz67_0 : w66.cell? ⟨gb202, 0, none⟩ = some (.string (⟨#[]⟩ : ByteArray)) := (blk_cell BK202.out 0).trans rfl; have hcz67_1 : w66.cell? ⟨gb202, 1, none⟩ = some (.int .i64 0) := (blk_cell BK202.out 1).trans rfl; have hcz67_2 : w66.cell? ⟨gb202, 2, none⟩ = some (.string (⟨#[]⟩ : ByteArray)) := (blk_cell BK202.out 2).trans rfl; have hcz67_3 : w66.cell? ⟨gb202, 3, none⟩ = some (.bool false) := (blk_cell BK202.out 3).trans rfl; have hfz67_0 := blk_frozen BK202.out 0; have hfz67_1 := blk_frozen BK202.out 1; have hfz67_2 := blk_frozen BK202.out 2; have hfz67_3 := blk_frozen BK202.out 3) | ((with_reducible refine gate_callee (f := 57) rfl ?_); refine goesL_ (some 87) rfl rfl Tryd.func57 (by kernel_rfl) rfl #[.string ((rd_T34 l0 x80_2).f0)] rfl (by (try simp only [List.map_toArray, List.map_cons, List.map_nil]); first | done | rfl | (simp only [List.length_drop, List.length_take]; rfl)) ?_; (with_reducible refine (impl_upper.calls ((rd_T34 l0 x80_2).f0) t203 true _ A62.out).mono ?_); rintro e w' ⟨rfl, ⟨nd, rfl⟩⟩; refine ⟨_, rfl, ?_⟩) | ((with_reducible refine gate_dst (N := 94) rfl ?_); (try (refine gate_guard (by rfl) ?_; dsimp only)); refine map_look (kkStr Tryd.prog 9 Tryd.underlying9) ekI64 rfl (N := 94) rfl 72 3 _ _ rfl 0 Tryd.underlying72 rfl gm195 x3_1 t203 rfl rfl (show t203.size ≤ 9223372036854775807 from by first | assumption | exact of_eq_true (by assumption) | exact of_decide_eq_true (by assumption) | decide | omega) (by (with_reducible repeat (first | refine MapAt.alloc ?_ _ | refine MapAt.drewN ?_ _ | refine MapAt.drew ?_ | refine MapAt.set_ ?_ _ _)); exact HM_3.out) ?_; dsimp only [ekI64, ekBool]))
                          go_ret
                          exact ⟨by first | rfl | (simp [errW_none, errW_some] <;> rfl) | (simp [*, errW_none, errW_some] <;> rfl), by repeat (first | (with_reducible first | exact HB.out | apply below_alloc | apply pw_below_drewN | apply below_drew1 | refine below_set ?_ GE202.out) | exact HB.out)⟩
                        · rw [if_neg c65] at H
                          have c65b0 : ((mgetD 0 x3_1 t203) == 0) = false := beq_eq_false_iff_ne.mpr c65
                          have c65b1 : ((mgetD 0 x3_1 t203) != 0) = true := bne_iff_ne.mpr c65
                          have H' := Aside0.mk H
                          clear H
                          have p201 : 0 ≤ (x80_2 : Int) := of_decide_eq_true (by first | (with_reducible assumption) | assumption)
                          have q201 : x80_2 < (l0.length : Int) := of_decide_eq_true (by first | (with_reducible assumption) | assumption)
                          obtain ⟨ad201, e201, hx201_0, hx201_1, hx201_2, hx201_3⟩ := at_T34 HR0.out x80_2 p201 q201
                          cases e201
                          replace hx201_0 := (HB.out.cell (World.block_lt_of_cell? w _ hx201_0)).trans hx201_0
                          replace hx201_1 := (HB.out.cell (World.block_lt_of_cell? w _ hx201_1)).trans hx201_1
                          replace hx201_2 := (HB.out.cell (World.block_lt_of_cell? w _ hx201_2)).trans hx201_2
                          replace hx201_3 := (HB.out.cell (World.block_lt_of_cell? w _ hx201_3)).trans hx201_3
                          replace p201 := eq_true p201
                          replace q201 := eq_true q201
                          go_wp2_with (first | ((with_reducible refine gate_dst (N := 7) rfl ?_); (try (refine gate_guard (by rfl) ?_; dsimp only)); refine box_event ?hg (N := 7) ?hd (cs := #[.string (⟨#[]⟩ : ByteArray), .int .i64 0, .string (⟨#[]⟩ : ByteArray), .bool false]) (t := 34) ?hr ?_; (case hd => rfl); (case hg => rfl); (case hr => first | (go_simp; done) | (go_simp; rfl)); intro gb202 hg w68 hbox hb; have n0_ := Aside0.mk (MapAt.below (show MapAt (kkStr Tryd.prog 9 Tryd.underlying9) ekI64 _ gm195 x3_1 from by (with_reducible repeat (first | refine MapAt.alloc ?_ _ | refine MapAt.drewN ?_ _ | refine MapAt.drew ?_)); exact HM_3.out) hb); have n1_ := Aside0.mk (below_step (by repeat (first | (with_reducible first | exact HB.out | apply below_alloc | apply pw_below_drewN | apply below_drew1) | exact HB.out)) hb); have n2_ := Aside0.mk (hbox); have n3_ := Aside0.mk ((by rw [hg]; exact (below_size (by repeat (first | (with_reducible first | exact HB.out | apply below_alloc | apply pw_below_drewN | apply below_drew1) | exact HB.out))) : w.heap.size ≤ gb202)); have n4_ := Aside0.mk ((by rw [hg]; exact (below_size (by repeat (first | (with_reducible first | exact HB.out | apply below_alloc | apply pw_below_drewN | apply below_drew1) | exact HB.out))) : w.heap.size ≤ gb202)); clear HM_3; clear HB; have HM_3 := n0_; have HB := n1_; have BK202 := n2_; have GW202 := n3_; have GE202 := n4_; clear n0_ n1_ n2_ n3_ n4_; clear hb hbox hg; have hcz69_0 : w68.cell? ⟨gb202, 0, none⟩ = some (.string (⟨#[]⟩ : ByteArray)) := (blk_cell BK202.out 0).trans rfl; have hcz69_1 : w68.cell? ⟨gb202, 1, none⟩ = some (.int .i64 0) := (blk_cell BK202.out 1).trans rfl; have hcz69_2 : w68.cell? ⟨gb202, 2, none⟩ = some (.string (⟨#[]⟩ : ByteArray)) := (blk_cell BK202.out 2).trans rfl; have hcz69_3 : w68.cell? ⟨gb202, 3, none⟩ = some (.bool false) := (blk_cell BK202.out 3).trans rfl; have hfz69_0 := blk_frozen BK202.out 0; have hfz69_1 := blk_frozen BK202.out 1; have hfz69_2 := blk_frozen BK202.out 2; have hfz69_3 := blk_frozen BK202.out 3) | ((with_reducible refine gate_callee (f := 57) rfl ?_); refine goesL_ (some 87) rfl rfl Tryd.func57 (by kernel_rfl) rfl #[.string ((rd_T34 l0 x80_2).f0)] rfl (by (try simp only [List.map_toArray, List.map_cons, List.map_nil]); first | done | rfl | (simp only [List.length_drop, List.length_take]; rfl)) ?_; (with_reducible refine (impl_upper.calls ((rd_T34 l0 x80_2).f0) t203 true _ A62.out).mono ?_); rintro e w' ⟨rfl, ⟨nd, rfl⟩⟩; refine ⟨_, rfl, ?_⟩) | ((with_reducible refine gate_dst (N := 94) rfl ?_); (try (refine gate_guard (by rfl) ?_; dsimp only)); refine map_look (kkStr Tryd.prog 9 Tryd.underlying9) ekI64 rfl (N := 94) rfl 72 3 _ _ rfl 0 Tryd.underlying72 rfl gm195 x3_1 t203 rfl rfl (show t203.size ≤ 9223372036854775807 from by first | assumption | exact of_eq_true (by assumption) | exact of_decide_eq_true (by assumption) | decide | omega) (by (with_reducible repeat (first | refine MapAt.alloc ?_ _ | refine MapAt.drewN ?_ _ | refine MapAt.drew ?_ | refine MapAt.set_ ?_ _ _)); exact HM_3.out) ?_; dsimp only [ekI64, ekBool]))
                          go_roundg k2
                          case measure => have := HK1.out; have := HK2.out; omega
                          case rel => exact ⟨(wrap64 (x80_2 + 1)), (by first | rfl | (simp; done) | (simp [*]; done)), H', ⟨by have := HK1.out; have := HK2.out; omega⟩, ⟨show MapAt (kkStr Tryd.prog 9 Tryd.underlying9) ekI64 _ gm195 x3_1 from by (with_reducible repeat (first | refine MapAt.alloc ?_ _ | refine MapAt.drewN ?_ _ | refine MapAt.drew ?_ | refine MapAt.set_ ?_ _ _)); exact HM_3.out⟩, ⟨by repeat (first | (with_reducible first | exact HB.out | apply below_alloc | apply pw_below_drewN | apply below_drew1 | refine below_set ?_ GE202.out) | exact HB.out)⟩⟩
                      · rw [if_neg c64] at H
                        exact absurd H (by simp)
                    · replace c63 := Bool.eq_false_iff.mpr c63
                      subst c63
                      have H1 : (impl_TreeOk.l1 k2 x3_1 l0 (l0.length : Int) (wrap64 (x80_2 + 1))) = some r := by rw [if_neg (show ¬ (false = true) by decide)] at H; exact H
                      clear H
                      have H := H1
                      clear H1
                      have H' := Aside0.mk H
                      clear H
                      have p201 : 0 ≤ (x80_2 : Int) := of_decide_eq_true (by first | (with_reducible assumption) | assumption)
                      have q201 : x80_2 < (l0.length : Int) := of_decide_eq_true (by first | (with_reducible assumption) | assumption)
                      obtain ⟨ad201, e201, hx201_0, hx201_1, hx201_2, hx201_3⟩ := at_T34 HR0.out x80_2 p201 q201
                      cases e201
                      replace hx201_0 := (HB.out.cell (World.block_lt_of_cell? w _ hx201_0)).trans hx201_0
                      replace hx201_1 := (HB.out.cell (World.block_lt_of_cell? w _ hx201_1)).trans hx201_1
                      replace hx201_2 := (HB.out.cell (World.block_lt_of_cell? w _ hx201_2)).trans hx201_2
                      replace hx201_3 := (HB.out.cell (World.block_lt_of_cell? w _ hx201_3)).trans hx201_3
                      replace p201 := eq_true p201
                      replace q201 := eq_true q201
                      go_wp2_with (first | ((with_reducible refine gate_dst (N := 7) rfl ?_); (try (refine gate_guard (by rfl) ?_; dsimp only)); refine box_event ?hg (N := 7) ?hd (cs := #[.string (⟨#[]⟩ : ByteArray), .int .i64 0, .string (⟨#[]⟩ : ByteArray), .bool false]) (t := 34) ?hr ?_; (case hd => rfl); (case hg => rfl); (case hr => first | (go_simp; done) | (go_simp; rfl)); intro gb202 hg w70 hbox hb; have n0_ := Aside0.mk (MapAt.below (show MapAt (kkStr Tryd.prog 9 Tryd.underlying9) ekI64 _ gm195 x3_1 from by (with_reducible repeat (first | refine MapAt.alloc ?_ _ | refine MapAt.drewN ?_ _ | refine MapAt.drew ?_)); exact HM_3.out) hb); have n1_ := Aside0.mk (below_step (by repeat (first | (with_reducible first | exact HB.out | apply below_alloc | apply pw_below_drewN | apply below_drew1) | exact HB.out)) hb); have n2_ := Aside0.mk (hbox); have n3_ := Aside0.mk ((by rw [hg]; exact (below_size (by repeat (first | (with_reducible first | exact HB.out | apply below_alloc | apply pw_below_drewN | apply below_drew1) | exact HB.out))) : w.heap.size ≤ gb202)); have n4_ := Aside0.mk ((by rw [hg]; exact (below_size (by repeat (first | (with_reducible first | exact HB.out | apply below_alloc | apply pw_below_drewN | apply below_drew1) | exact HB.out))) : w.heap.size ≤ gb202)); clear HM_3; clear HB; have HM_3 := n0_; have HB := n1_; have BK202 := n2_; have GW202 := n3_; have GE202 := n4_; clear n0_ n1_ n2_ n3_ n4_; clear hb hbox hg; have hcz71_0 : w70.cell? ⟨gb202, 0, none⟩ = some (.string (⟨#[]⟩ : ByteArray)) := (blk_cell BK202.out 0).trans rfl; have hcz71_1 : w70.cell? ⟨gb202, 1, none⟩ = some (.int .i64 0) := (blk_cell BK202.out 1).trans rfl; have hcz71_2 : w70.cell? ⟨gb202, 2, none⟩ = some (.string (⟨#[]⟩ : ByteArray)) := (blk_cell BK202.out 2).trans rfl; have hcz71_3 : w70.cell? ⟨gb202, 3, none⟩ = some (.bool false) := (blk_cell BK202.out 3).trans rfl; have hfz71_0 := blk_frozen BK202.out 0; have hfz71_1 := blk_frozen BK202.out 1; have hfz71_2 := blk_frozen BK202.out 2; have hfz71_3 := blk_frozen BK202.out 3) | ((with_reducible refine gate_callee (f := 57) rfl ?_); refine goesL_ (some 87) rfl rfl Tryd.func57 (by kernel_rfl) rfl #[.string ((rd_T34 l0 x80_2).f0)] rfl (by (try simp only [List.map_toArray, List.map_cons, List.map_nil]); first | done | rfl | (simp only [List.length_drop, List.length_take]; rfl)) ?_; (with_reducible refine (impl_upper.calls ((rd_T34 l0 x80_2).f0) t203 false _ A62.out).mono ?_); rintro e w' ⟨rfl, ⟨nd, rfl⟩⟩; refine ⟨_, rfl, ?_⟩))
                      go_roundg k2
                      case measure => have := HK1.out; have := HK2.out; omega
                      case rel => exact ⟨(wrap64 (x80_2 + 1)), (by first | rfl | (simp; done) | (simp [*]; done)), H', ⟨by have := HK1.out; have := HK2.out; omega⟩, ⟨show MapAt (kkStr Tryd.prog 9 Tryd.underlying9) ekI64 _ gm195 x3_1 from by (with_reducible repeat (first | refine MapAt.alloc ?_ _ | refine MapAt.drewN ?_ _ | refine MapAt.drew ?_ | refine MapAt.set_ ?_ _ _)); exact HM_3.out⟩, ⟨by repeat (first | (with_reducible first | exact HB.out | apply below_alloc | apply pw_below_drewN | apply below_drew1 | refine below_set ?_ GE202.out) | exact HB.out)⟩⟩
                  · rw [if_neg c61] at H
                    exact absurd H (by simp)
                · rw [if_neg c60] at H
                  exact absurd H (by simp)
              · rw [if_neg c59] at H
                have c59b0 : decide (x80_2 < (l0.length : Int)) = false := decide_eq_false c59
                clear c59
                obtain rfl := Option.some.inj H
                go_wp2
                go_ret
                exact ⟨by first | rfl | (simp [errW_none, errW_some] <;> rfl) | (simp [*, errW_none, errW_some] <;> rfl), by repeat (first | (with_reducible first | exact HB.out | apply below_alloc | apply pw_below_drewN | apply below_drew1) | exact HB.out)⟩
end Go.Proofs.YthaaboajbnkabaaDoor.P
end

section
namespace Go.Proofs.YthaaboajbnkabaaDoor.P
open Go.RowKit Go.Proofs.YthaaboajbnkabaaDoorW.PrintWords Go.Proofs.YthaaboajbnkabaaDoorW.PrintLast Go.Proofs.YthaaboajbnkabaaDoorW.PrintMore Go.Proofs.YthaaboajbnkabaaDoorM
attribute [local go_sem] max2_int min2_int max_two min_two max_three min_three max_four min_four   -- for this text's walks alone
set_option linter.unusedVariables false
set_option linter.unusedSimpArgs false
def spec_l10Find.l0 : Nat → List (S34) → ByteArray → Int → Int → Option (Int)
  | 0, _, _, _, _ => none
  | k + 1, x0, x1, x5, x6 => if x5 < x6 then (if 0 ≤ (wrap64 (Int.tdiv (wrap64 (x5 + x6)) 2)) then (if (wrap64 (Int.tdiv (wrap64 (x5 + x6)) 2)) < (x0.length : Int) then (if (Op.bytesLess (((rd_T34 x0 (wrap64 (Int.tdiv (wrap64 (x5 + x6)) 2))).f0).toList) x1.toList) = true then (spec_l10Find.l0 k x0 x1 (wrap64 ((wrap64 (Int.tdiv (wrap64 (x5 + x6)) 2)) + 1)) x6) else (spec_l10Find.l0 k x0 x1 x5 (wrap64 (Int.tdiv (wrap64 (x5 + x6)) 2)))) else (none)) else (none)) else (if x5 < (x0.length : Int) then (if 0 ≤ x5 then (if ((rd_T34 x0 x5).f0).toList = x1.toList then (some x5) else (some (-1))) else (none)) else (some (-1)))
def spec_l10Find.f (k : Nat) (l0 : List (S34)) (a1 : ByteArray) : Option (Int) := spec_l10Find.l0 k l0 a1 0 (l0.length : Int)
set_option maxHeartbeats 8000000 in
set_option maxRecDepth 100000 in
theorem spec_l10Find.calls (k : Nat) (A0 : Option Addr) (c0 : Nat) (l0 : List (S34)) (a1 : ByteArray) (r : Int) (w : World) (hr0 : Kd.C k34 w A0 l0.length l0) (hc0 : l0.length ≤ c0) (h : spec_l10Find.f k l0 a1 = some r) :
    Calls Tryd.prog 63 #[.slice A0 l0.length c0, .string a1] w fun e w' => e = .returned (.int .i64 r) ∧ Drawn0 w w' := by
  have HR0 := Aside0.mk hr0
  have HC0 := Aside0.mk hc0
  clear hr0 hc0
  have H : (spec_l10Find.l0 k l0 a1 0 (l0.length : Int)) = some r := h
  clear h
  have H' := Aside0.mk H
  clear H
  go_enter Tryd.func63, Tryd.ntmps63
  go_wp2
  go_loopg [5, 6] k (fun kq v5 v6 w' => ∃ (x5_1 : Int) (x6_1 : Int), v5 = .int .i64 x5_1 ∧ v6 = .int .i64 x6_1 ∧ Aside0 (spec_l10Find.l0 kq l0 a1 x5_1 x6_1 = some r) ∧ Aside0 (kq ≤ k) ∧ Drawn0 w w')
  case atStart => exact ⟨(0), ((l0.length : Int)), (by first | rfl | (simp; done) | (simp [*]; done)), (by first | rfl | (simp; done) | (simp [*]; done)), H', ⟨Nat.le_refl _⟩, by repeat (first | exact Drawn0.refl _ | apply Drawn0.step)⟩
  case round =>
    clear H'
    try clear p2
    obtain ⟨x5_1, x6_1, rfl, rfl, HA, HK1, ⟨m1, rfl⟩⟩ := hrel
    cases gk with
    | zero => exact absurd HA.out (by simp [spec_l10Find.l0])
    | succ k1 =>
      have H := HA.out
      clear HA
      simp only [spec_l10Find.l0] at H
      by_cases c3 : x5_1 < x6_1
      · rw [if_pos c3] at H
        have c3b0 : decide (x5_1 < x6_1) = true := decide_eq_true c3
        clear c3
        obtain ⟨ji4, hji4⟩ : ∃ j_ : Int, (wrap64 (Int.tdiv (wrap64 (x5_1 + x6_1)) 2)) = j_ := ⟨_, rfl⟩
        replace H : (if 0 ≤ (ji4) then (if (ji4) < (l0.length : Int) then (if (Op.bytesLess (((rd_T34 l0 (ji4)).f0).toList) a1.toList) = true then (spec_l10Find.l0 k1 l0 a1 (wrap64 ((ji4) + 1)) x6_1) else (spec_l10Find.l0 k1 l0 a1 x5_1 ji4)) else (none)) else (none)) = some r := by first | (rw [hji4] at H; exact H) | (simp only [hji4] at H ⊢; exact H)
        have hji4w : (IntKind.i64.wrap (Int.tdiv (wrap64 (x5_1 + x6_1)) 2)) = ji4 := (i64_w _).trans hji4
        by_cases c5 : 0 ≤ (ji4)
        · rw [if_pos c5] at H
          have c5b0 : decide (0 ≤ (ji4)) = true := decide_eq_true c5
          clear c5
          by_cases c6 : (ji4) < (l0.length : Int)
          · rw [if_pos c6] at H
            have c6b0 : decide ((ji4) < (l0.length : Int)) = true := decide_eq_true c6
            clear c6
            by_cases c7 : (Op.bytesLess (((rd_T34 l0 (ji4)).f0).toList) a1.toList) = true
            · rw [if_pos c7] at H
              have c7b0 : (Op.bytesLess (((rd_T34 l0 (ji4)).f0).toList) a1.toList) = true := c7
              clear c7
              have H' := Aside0.mk H
              clear H
              have p116 : 0 ≤ ((ji4) : Int) := of_decide_eq_true (by first | (with_reducible assumption) | assumption)
              have q116 : (ji4) < (l0.length : Int) := of_decide_eq_true (by first | (with_reducible assumption) | assumption)
              obtain ⟨ad116, e116, hx116_0, hx116_1, hx116_2, hx116_3⟩ := at_T34 HR0.out (ji4) p116 q116
              cases e116
              replace p116 := eq_true p116
              replace q116 := eq_true q116
              go_wp2
              go_roundg k1
              case measure => have := HK1.out; omega
              case rel => exact ⟨(wrap64 ((ji4) + 1)), (x6_1), (by first | rfl | (simp; done) | (simp only [← hji4] <;> (first | rfl | simp)) | (simp [*]; done)), (by first | rfl | (simp; done) | (simp [*]; done)), H', ⟨by have := HK1.out; omega⟩, by repeat (first | exact Drawn0.refl _ | apply Drawn0.step)⟩
            · rw [if_neg c7] at H
              have c7b0 : (Op.bytesLess (((rd_T34 l0 (ji4)).f0).toList) a1.toList) = false := by simpa using c7
              clear c7
              have H' := Aside0.mk H
              clear H
              have p116 : 0 ≤ ((ji4) : Int) := of_decide_eq_true (by first | (with_reducible assumption) | assumption)
              have q116 : (ji4) < (l0.length : Int) := of_decide_eq_true (by first | (with_reducible assumption) | assumption)
              obtain ⟨ad116, e116, hx116_0, hx116_1, hx116_2, hx116_3⟩ := at_T34 HR0.out (ji4) p116 q116
              cases e116
              replace p116 := eq_true p116
              replace q116 := eq_true q116
              go_wp2
              go_roundg k1
              case measure => have := HK1.out; omega
              case rel => exact ⟨(x5_1), (ji4), (by first | rfl | (simp; done) | (simp [*]; done)), (by first | rfl | (simp; done) | (simp only [← hji4] <;> (first | rfl | simp)) | (simp [*]; done)), H', ⟨by have := HK1.out; omega⟩, by repeat (first | exact Drawn0.refl _ | apply Drawn0.step)⟩
          · rw [if_neg c6] at H
            exact absurd H (by simp)
        · rw [if_neg c5] at H
          exact absurd H (by simp)
      · rw [if_neg c3] at H
        have c3b0 : decide (x5_1 < x6_1) = false := decide_eq_false c3
        clear c3
        by_cases c8 : x5_1 < (l0.length : Int)
        · rw [if_pos c8] at H
          have c8b0 : decide (x5_1 < (l0.length : Int)) = true := decide_eq_true c8
          clear c8
          by_cases c9 : 0 ≤ x5_1
          · rw [if_pos c9] at H
            have c9b0 : decide (0 ≤ x5_1) = true := decide_eq_true c9
            clear c9
            by_cases c10 : ((rd_T34 l0 x5_1).f0).toList = a1.toList
            · rw [if_pos c10] at H
              have c10b0 : (((rd_T34 l0 x5_1).f0).toList == a1.toList) = true := beq_iff_eq.mpr c10
              have c10b1 : (((rd_T34 l0 x5_1).f0).toList != a1.toList) = false := bne_eq_false_iff_eq.mpr c10
              clear c10
              obtain rfl := Option.some.inj H
              have p117 : 0 ≤ (x5_1 : Int) := of_decide_eq_true (by first | (with_reducible assumption) | assumption)
              have q117 : x5_1 < (l0.length : Int) := of_decide_eq_true (by first | (with_reducible assumption) | assumption)
              obtain ⟨ad117, e117, hx117_0, hx117_1, hx117_2, hx117_3⟩ := at_T34 HR0.out x5_1 p117 q117
              cases e117
              replace p117 := eq_true p117
              replace q117 := eq_true q117
              go_wp2
              go_ret
              exact ⟨by first | rfl | (simp; done) | (simp [*]; done), by repeat (first | exact Drawn0.refl _ | apply Drawn0.step)⟩
            · rw [if_neg c10] at H
              have c10b0 : (((rd_T34 l0 x5_1).f0).toList == a1.toList) = false := beq_eq_false_iff_ne.mpr c10
              have c10b1 : (((rd_T34 l0 x5_1).f0).toList != a1.toList) = true := bne_iff_ne.mpr c10
              obtain rfl := Option.some.inj H
              have p117 : 0 ≤ (x5_1 : Int) := of_decide_eq_true (by first | (with_reducible assumption) | assumption)
              have q117 : x5_1 < (l0.length : Int) := of_decide_eq_true (by first | (with_reducible assumption) | assumption)
              obtain ⟨ad117, e117, hx117_0, hx117_1, hx117_2, hx117_3⟩ := at_T34 HR0.out x5_1 p117 q117
              cases e117
              replace p117 := eq_true p117
              replace q117 := eq_true q117
              go_wp2
              go_ret
              exact ⟨by first | rfl | (simp; done) | (simp [*]; done), by repeat (first | exact Drawn0.refl _ | apply Drawn0.step)⟩
          · rw [if_neg c9] at H
            exact absurd H (by simp)
        · rw [if_neg c8] at H
          have c8b0 : decide (x5_1 < (l0.length : Int)) = false := decide_eq_false c8
          clear c8
          obtain rfl := Option.some.inj H
          go_wp2
          go_ret
          exact ⟨by first | rfl | (simp; done) | (simp [*]; done), by repeat (first | exact Drawn0.refl _ | apply Drawn0.step)⟩
def spec_l10Dir.f (k : Nat) (l0 : List (S34)) (a1 : ByteArray) : Option (Bool) := (spec_l10Find.f k l0 a1).bind fun t118 => (if t118 ≥ 0 then (if 0 ≤ t118 then (if t118 < (l0.length : Int) then (some (((rd_T34 l0 t118).f1) == 1)) else (none)) else (none)) else (some false))
set_option maxHeartbeats 8000000 in
set_option maxRecDepth 100000 in
theorem spec_l10Dir.calls (k : Nat) (A0 : Option Addr) (c0 : Nat) (l0 : List (S34)) (a1 : ByteArray) (r : Bool) (w : World) (hr0 : Kd.C k34 w A0 l0.length l0) (hc0 : l0.length ≤ c0) (h : spec_l10Dir.f k l0 a1 = some r) :
    Calls Tryd.prog 42 #[.slice A0 l0.length c0, .string a1] w fun e w' => e = .returned (.bool r) ∧ Drawn0 w w' := by
  have HR0 := Aside0.mk hr0
  have HC0 := Aside0.mk hc0
  clear hr0 hc0
  have H : ((spec_l10Find.f k l0 a1).bind fun t118 => (if t118 ≥ 0 then (if 0 ≤ t118 then (if t118 < (l0.length : Int) then (some (((rd_T34 l0 t118).f1) == 1)) else (none)) else (none)) else (some false))) = some r := h
  clear h
  replace H := Option.bind_eq_some_iff.mp H
  obtain ⟨t118, A30, H⟩ := H
  replace H : (if t118 ≥ 0 then (if 0 ≤ t118 then (if t118 < (l0.length : Int) then (some (((rd_T34 l0 t118).f1) == 1)) else (none)) else (none)) else (some false)) = some r := H
  have A3 := Aside0.mk A30
  clear A30
  by_cases c4 : t118 ≥ 0
  · rw [if_pos c4] at H
    have c4b0 : decide (0 ≤ t118) = true := decide_eq_true c4
    clear c4
    by_cases c5 : 0 ≤ t118
    · rw [if_pos c5] at H
      have c5b0 : decide (0 ≤ t118) = true := decide_eq_true c5
      clear c5
      by_cases c6 : t118 < (l0.length : Int)
      · rw [if_pos c6] at H
        have c6b0 : decide (t118 < (l0.length : Int)) = true := decide_eq_true c6
        clear c6
        obtain rfl := Option.some.inj H
        go_enter Tryd.func42, Tryd.ntmps42
        go_wp2_with (first | ((with_reducible refine gate_callee (f := 63) rfl ?_); refine goesL_ (some 8) rfl rfl Tryd.func63 (by kernel_rfl) rfl #[.slice A0 l0.length c0, .string a1] rfl (by (try simp only [List.map_toArray, List.map_cons, List.map_nil]); first | done | rfl | (simp only [List.length_drop, List.length_take]; rfl)) ?_; (with_reducible refine (spec_l10Find.calls k _ _ l0 a1 t118 _ ?side1 ?side2 A3.out).mono ?_); (case side1 => repeat (first | exact HR0.out | (with_reducible refine Kd.C_alloc ?_ _) | (with_reducible refine Kd.C_drewN ?_ _) | (with_reducible refine Kd.C_drew ?_))); (case side2 => exact HC0.out); rintro e w' ⟨rfl, ⟨nd, rfl⟩⟩; refine ⟨_, rfl, ?_⟩; have p119 : 0 ≤ (t118 : Int) := of_decide_eq_true (by first | (with_reducible assumption) | assumption); have q119 : t118 < (l0.length : Int) := of_decide_eq_true (by first | (with_reducible assumption) | assumption); obtain ⟨ad119, e119, hx119_0, hx119_1, hx119_2, hx119_3⟩ := at_T34 HR0.out t118 p119 q119; cases e119; replace p119 := eq_true p119; replace q119 := eq_true q119))
        go_ret
        exact ⟨by first | rfl | (simp; done) | (simp [*]; done), by repeat (first | exact Drawn0.refl _ | apply Drawn0.step)⟩
      · rw [if_neg c6] at H
        exact absurd H (by simp)
    · rw [if_neg c5] at H
      exact absurd H (by simp)
  · rw [if_neg c4] at H
    have c4b0 : decide (0 ≤ t118) = false := decide_eq_false c4
    clear c4
    obtain rfl := Option.some.inj H
    go_enter Tryd.func42, Tryd.ntmps42
    go_wp2_with (first | ((with_reducible refine gate_callee (f := 63) rfl ?_); refine goesL_ (some 8) rfl rfl Tryd.func63 (by kernel_rfl) rfl #[.slice A0 l0.length c0, .string a1] rfl (by (try simp only [List.map_toArray, List.map_cons, List.map_nil]); first | done | rfl | (simp only [List.length_drop, List.length_take]; rfl)) ?_; (with_reducible refine (spec_l10Find.calls k _ _ l0 a1 t118 _ ?side1 ?side2 A3.out).mono ?_); (case side1 => repeat (first | exact HR0.out | (with_reducible refine Kd.C_alloc ?_ _) | (with_reducible refine Kd.C_drewN ?_ _) | (with_reducible refine Kd.C_drew ?_))); (case side2 => exact HC0.out); rintro e w' ⟨rfl, ⟨nd, rfl⟩⟩; refine ⟨_, rfl, ?_⟩))
    go_ret
    exact ⟨by first | rfl | (simp; done) | (simp [*]; done), by repeat (first | exact Drawn0.refl _ | apply Drawn0.step)⟩
end Go.Proofs.YthaaboajbnkabaaDoor.P
end
