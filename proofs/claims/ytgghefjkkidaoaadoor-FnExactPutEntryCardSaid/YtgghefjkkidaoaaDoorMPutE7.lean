/- Texts of PutE, put together by program. -/
import Derived.Test.YtgghefjkkidaoaaDoorMPutE3
import Derived.Test.YtgghefjkkidaoaaDoorMPutE4
import Derived.Test.YtgghefjkkidaoaaDoorMPutE6
import Derived.Test.YtgghefjkkidaoaaDoorMPutE5

section
namespace Go.Proofs.YtgghefjkkidaoaaDoor.P
open Go.RowKit Go.Proofs.YtgghefjkkidaoaaDoorW.PrintWords Go.Proofs.YtgghefjkkidaoaaDoorW.PrintLast Go.Proofs.YtgghefjkkidaoaaDoorW.PrintMore Go.Proofs.YtgghefjkkidaoaaDoorM
attribute [local go_sem] max2_int min2_int max_two min_two max_three min_three max_four min_four   -- for this text's walks alone
set_option linter.unusedVariables false
set_option linter.unusedSimpArgs false
theorem impl_PutEntry.run_copy_k {P : Program} (w : World) (dT sT ty elem : TypeId) (b o dLen dCap : Nat) (a : Addr) (sLen sCap k m : Nat) (cs : List Value)
    (hu : P.underlying dT = some (.slice elem)) (hs : (P.info? elem).map (·.size) = some k) (hm : m = Nat.min sLen dLen) (hn : cs.length = m * k)
    (hsrc : ∀ j v, cs[j]? = some v → w.cell? (a.add j) = some v) (hc : ∀ j, j < cs.length → (w.cell? ⟨b, o + j, none⟩).isSome = true) (hf : ∀ j, j < cs.length → w.frozen? ⟨b, o + j, none⟩ = false) (h1 : ∀ v ∈ cs, v.oneCell' = true) :
    (Builtin.copy_ #[dT, sT] ty #[.slice (some ⟨b, o, none⟩) dLen dCap, .slice (some a) sLen sCap]).run P w = .ok (goInt m) (w.setCells b o cs) := by
  have hl := run_loadCells_list (P := P) w a cs hsrc
  have hst := run_storeCells_cells (P := P) b o cs 0 w (by simpa using hc) (by simpa using hf) h1
  cases hq : P.info? elem with
  | none => simp [hq] at hs
  | some i =>
    have hi : i.size = k := by simpa [hq] using hs
    rw [hn] at hl
    simp [Builtin.copy_, run_underlying hu, Builtin.lenOf, Builtin.firstCells, sizeOf, typeInfo, hq, hi, ← hm, hl, hst]
theorem impl_PutEntry.wpList_copy {P : Program} {ops : Array Oper} {rest : List Oper} {o : Oper} {a : Act} {Q : Exit → Act → World → Prop} (w : World) (hgd : o.guard = none) (d s : Operand) (t t' : TypeId)
    (ho : o.op = .call { callee := .builtin .copy, args := #[d, s], argTypes := #[t, t'] }) (v u : Value) (hd : a.eval d = v) (hs : a.eval s = u) {v' : Value} {w' : World}
    (hr : (Builtin.copy_ #[t, t'] o.type #[v, u]).run P w = .ok v' w') (h : wpList P ops Q rest (a.put o.dst v') w') : wpList P ops Q (o :: rest) a w := by
  refine wpList_plain hgd fun _ hK => ?_
  unfold Oper.wp execOp
  simp only [ho, resolve, invoke, builtin, Sem.run_bind, Sem.run_pure, Result.andThen_ok, List.map_toArray, List.map_cons, List.map_nil, hd, hs, hr]
  exact hK _ _ h
theorem impl_PutEntry.step_copy {P : Program} {ops : Array Oper} {o : Oper} {a : Act} {w : World} {K : Act → World → Prop} {Q : Exit → Act → World → Prop} {E : Prop}
    (hg : o.guard = none) (d x : Operand) (dT sT : TypeId) (hop : o.op = Op.call { callee := Callee.builtin Builtin.copy, args := #[d, x], argTypes := #[dT, sT] })
    (v u : Value) (hd : a.eval d = v) (hx : a.eval x = u) {v' : Value} {w' : World} (hr : (Builtin.copy_ #[dT, sT] o.type #[v, u]).run P w = .ok v' w') (hK : K (a.put o.dst v') w') :
    if Region.wanted o (yielded ops a.tmps) = true then Oper.wp P o a w K Q else E := by
  have hw : Region.wanted o (yielded ops a.tmps) = true := by simp [Region.wanted, hg]
  rw [if_pos hw]
  unfold Oper.wp
  simp [execOp, hop, resolve, invoke, builtin, hd, hx, hr, Result.andThen]
  exact hK
def impl_PutEntry.ec (x : S47) : List Value := [.string x.f0, .int .i64 x.f1, .string x.f2, .bool x.f3]
def impl_PutEntry.flat (xs : List S47) : List Value := xs.flatMap impl_PutEntry.ec
theorem impl_PutEntry.flat_length : ∀ xs : List S47, (impl_PutEntry.flat xs).length = xs.length * 4
  | [] => rfl
  | x :: xs => by
    have := impl_PutEntry.flat_length xs
    unfold impl_PutEntry.flat at this ⊢
    rw [List.flatMap_cons, List.length_append, this, List.length_cons]
    show 4 + _ = _
    omega
theorem impl_PutEntry.flat_append (xs ys : List S47) : impl_PutEntry.flat (xs ++ ys) = impl_PutEntry.flat xs ++ impl_PutEntry.flat ys := List.flatMap_append
theorem impl_PutEntry.flat_take (xs : List S47) (i : Nat) (hi : i ≤ xs.length) : (impl_PutEntry.flat xs).take (i * 4) = impl_PutEntry.flat (xs.take i) := by
  have h : impl_PutEntry.flat xs = impl_PutEntry.flat (xs.take i) ++ impl_PutEntry.flat (xs.drop i) := by rw [← impl_PutEntry.flat_append, List.take_append_drop]
  have hl : (impl_PutEntry.flat (xs.take i)).length = i * 4 := by rw [impl_PutEntry.flat_length, List.length_take, Nat.min_eq_left hi]
  rw [h, ← hl, List.take_left]
theorem impl_PutEntry.flat_drop (xs : List S47) (i : Nat) (hi : i ≤ xs.length) : (impl_PutEntry.flat xs).drop (i * 4) = impl_PutEntry.flat (xs.drop i) := by
  have h : impl_PutEntry.flat xs = impl_PutEntry.flat (xs.take i) ++ impl_PutEntry.flat (xs.drop i) := by rw [← impl_PutEntry.flat_append, List.take_append_drop]
  have hl : (impl_PutEntry.flat (xs.take i)).length = i * 4 := by rw [impl_PutEntry.flat_length, List.length_take, Nat.min_eq_left hi]
  rw [h, ← hl, List.drop_left]
theorem impl_PutEntry.flat_one (xs : List S47) : ∀ v ∈ impl_PutEntry.flat xs, v.oneCell' = true := by
  intro v hv
  obtain ⟨x, _, hx⟩ := List.mem_flatMap.1 hv
  simp only [impl_PutEntry.ec, List.mem_cons, List.not_mem_nil, or_false] at hx
  rcases hx with rfl | rfl | rfl | rfl <;> rfl
theorem impl_PutEntry.reps_flat {R : S47 → List Value → Prop} (hR : ∀ x c, R x c → c = impl_PutEntry.ec x) : ∀ (xs : List S47) (cs : List Value), Reps R 4 xs cs → cs = impl_PutEntry.flat xs
  | [], cs, h => by
    have := h.1
    simp at this
    rw [this]; rfl
  | x :: xs, cs, h => by
    have h0 := hR _ _ (h.2 0 x rfl)
    rw [Nat.zero_mul, List.drop_zero] at h0
    have hl := h.1
    have ht := impl_PutEntry.reps_flat hR xs (cs.drop 4) ⟨by rw [List.length_drop, hl, List.length_cons]; omega, fun j p hj => by
      have := h.2 (j + 1) p (by simpa using hj)
      rw [List.drop_drop, show 4 + j * 4 = (j + 1) * 4 by omega]
      exact this⟩
    rw [show impl_PutEntry.flat (x :: xs) = impl_PutEntry.ec x ++ impl_PutEntry.flat xs from List.flatMap_cons, ← h0, ← ht, List.take_append_drop]
theorem impl_PutEntry.flat_reps {R : S47 → List Value → Prop} (hR : ∀ x, R x (impl_PutEntry.ec x)) (xs : List S47) : Reps R 4 xs (impl_PutEntry.flat xs) := by
  refine ⟨impl_PutEntry.flat_length xs, fun j p hj => ?_⟩
  have hlt : j < xs.length := (List.getElem?_eq_some_iff.1 hj).1
  rw [impl_PutEntry.flat_drop xs j (by omega), List.drop_eq_getElem_cons hlt]
  have he : xs[j] = p := by rw [List.getElem?_eq_getElem hlt] at hj; exact Option.some.inj hj
  rw [he, show impl_PutEntry.flat (p :: xs.drop (j + 1)) = impl_PutEntry.ec p ++ impl_PutEntry.flat (xs.drop (j + 1)) from List.flatMap_cons]
  exact hR p
theorem impl_PutEntry.R_of_flat {W : World} {base : Nat} {ok : Nat → Prop} {v : Value} {xs : List S47} (hok : ∀ k, v.ownBlock = some k → ok k) (h : W.ownsRow base 47 4 v xs.length (impl_PutEntry.flat xs)) : Kd.R k47 47 W base ok v xs :=
  ⟨hok, impl_PutEntry.flat xs, h, impl_PutEntry.flat_reps (fun x => k47_mkM W base _ x) xs⟩
theorem impl_PutEntry.R_flat {W : World} {base : Nat} {ok : Nat → Prop} {v : Value} {xs : List S47} (h : Kd.R k47 47 W base ok v xs) : W.ownsRow base 47 4 v xs.length (impl_PutEntry.flat xs) := by
  obtain ⟨_, inner, ho, hr⟩ := h
  rw [← impl_PutEntry.reps_flat (fun x c hx => k47_openM hx) xs inner hr]
  exact ho
theorem impl_PutEntry.isSome_setCells (b : Nat) (vs : List Value) (o : Nat) (w : World) (h : ∀ j, j < vs.length → (w.cell? ⟨b, o + j, none⟩).isSome = true) (k : Nat) (hk : (w.cell? ⟨b, k, none⟩).isSome = true) : ((w.setCells b o vs).cell? ⟨b, k, none⟩).isSome = true := by
  by_cases hin : o ≤ k ∧ k < o + vs.length
  · have := World.cell?_setCells_in b vs o w h (k - o) (by omega)
    rw [show o + (k - o) = k by omega] at this
    rw [this]; rfl
  · rw [World.cell?_setCells_out b vs o w ⟨b, k, none⟩ (fun _ _ => by show k < o ∨ o + vs.length ≤ k; omega)]
    exact hk
theorem impl_PutEntry.take_ins (cs F D : List Value) (i n : Nat) (hF : F.length = 4) (hD : D = (cs.take (n * 4)).drop (i * 4)) (hi : i ≤ n) (hn : (n + 1) * 4 ≤ cs.length) :
    ((cs.take ((i + 1) * 4) ++ D ++ cs.drop ((i + 1) * 4 + D.length)).take (i * 4) ++ F ++ (cs.take ((i + 1) * 4) ++ D ++ cs.drop ((i + 1) * 4 + D.length)).drop (i * 4 + F.length)).take ((n + 1) * 4) = cs.take (i * 4) ++ F ++ D := by
  have hDl : D.length = (n - i) * 4 := by rw [hD, List.length_drop, List.length_take]; omega
  have h1 : (cs.take ((i + 1) * 4)).length = (i + 1) * 4 := by rw [List.length_take]; omega
  obtain ⟨R, hR⟩ : ∃ R, R = cs.drop ((i + 1) * 4 + D.length) := ⟨_, rfl⟩
  rw [← hR, hF, show i * 4 + 4 = (i + 1) * 4 by omega, List.append_assoc (cs.take ((i + 1) * 4))]
  have ht : (cs.take ((i + 1) * 4) ++ (D ++ R)).take (i * 4) = cs.take (i * 4) := by
    rw [List.take_append_of_le_length (by omega), List.take_take, Nat.min_eq_left (by omega)]
  have hd : (cs.take ((i + 1) * 4) ++ (D ++ R)).drop ((i + 1) * 4) = D ++ R := by
    rw [List.drop_append_of_le_length (by omega), List.drop_of_length_le (by omega), List.nil_append]
  rw [ht, hd]
  have h2 : (cs.take (i * 4) ++ F ++ D).length = (n + 1) * 4 := by rw [List.length_append, List.length_append, List.length_take]; omega
  rw [← List.append_assoc, ← h2, List.take_left]
set_option maxRecDepth 100000 in
set_option maxHeartbeats 4000000 in
/-- slices.Insert: there is room behind the row. -/
theorem impl_PutEntry.ins_room (x : S47) (xs : List S47) (i n g gv cap base : Nat) (hn : xs.length = n) (cur : Array Value) (w : World) (hi : i < n) (hroom : n + 1 ≤ cap) (hcap : cap ≤ 9223372036854775807) (hne : gv ≠ g) (hbase : base ≤ g)
    (hb : w.heap[g]? = some (.cells cur 47 (0, 0))) (hcs : cur.size = cap * 4) (hcur : cur.toList.take (n * 4) = impl_PutEntry.flat xs) (hv : w.heap[gv]? = some (.cells (impl_PutEntry.ec x).toArray 47 (0, 0))) :
    Calls Tryd.prog 75 #[.slice (some ⟨g, 0, none⟩) n cap, .int .i64 i, .slice (some ⟨gv, 0, none⟩) 1 1] w fun e w' =>
      e = .returned (.slice (some ⟨g, 0, none⟩) (n + 1) cap) ∧ Kd.R k47 47 w' base (fun _ => True) (.slice (some ⟨g, 0, none⟩) (n + 1) cap) (xs.take i ++ x :: xs.drop i) ∧ w.grownBy w' (some g) := by
  have hu := Tryd.underlying47
  have hus := Tryd.underlying25
  have hsz : (Tryd.prog.info? 47).map (·.size) = some 4 := by
    obtain ⟨i0, hi, hz⟩ := Option.map_eq_some_iff.1 info47
    simp only [Prod.mk.injEq] at hz
    rw [hi]; simp [hz.2.1]
  have hszS : ∀ w, (Go.sizeOf 47).run Tryd.prog w = .ok 4 w := fun w => by
    obtain ⟨i0, hi, hz⟩ := Option.map_eq_some_iff.1 info47
    simp only [Prod.mk.injEq] at hz
    simp [Go.sizeOf, typeInfo, hi, hz.2.1]
  have hsa : w.shape? gv = some (47, 4) := by simp [World.shape?, hv, impl_PutEntry.ec]
  have hsb : w.shape? g = some (47, cap * 4) := by simp [World.shape?, hb, hcs]
  have hov : ∀ lb cb, (callFunc 95 #[.slice (some ⟨gv, 0, none⟩) 1 1, .slice (some ⟨g, (i + 1) * 4, none⟩) lb cb]).run Tryd.prog w = .ok (.value (.bool false)) w := fun lb cb => by
    rw [run_callFunc_extern Tryd.func95 (by kernel_rfl) (by kernel_rfl) (by kernel_rfl) (e := Extern.SlicesOverlaps.overlaps #[25, 25] #[4]) (by kernel_rfl),
      Lib.run_overlaps_apart w 25 4 47 hus 4 hszS ⟨gv, 0, none⟩ ⟨g, (i + 1) * 4, none⟩ 1 1 lb cb hne 47 47 4 (cap * 4) hsa hsb (by omega) (blk_frozen hv _) (blk_frozen hv _)]
    rfl
  have hcell : ∀ j v, (impl_PutEntry.flat xs)[j]? = some v → w.cell? ⟨g, j, none⟩ = some v := fun j v hj => by
    rw [← hcur, List.getElem?_take] at hj
    split at hj
    · rw [cell_of_row w g _ cur 47 (0, 0) hb]
      simpa using hj
    · cases hj
  have hsp : ∀ j, j < (n + 1) * 4 → (w.cell? ⟨g, j, none⟩).isSome = true := fun j hj => by
    rw [cell_of_row w g _ cur 47 (0, 0) hb, Array.getElem?_eq_getElem (by omega)]; rfl
  have hfl := impl_PutEntry.flat_length xs
  rw [hn] at hfl
  have hdl : ((impl_PutEntry.flat xs).drop (i * 4)).length = (n - i) * 4 := by rw [List.length_drop, hfl]; omega
  obtain ⟨D, hD⟩ : ∃ D, D = (impl_PutEntry.flat xs).drop (i * 4) := ⟨_, rfl⟩
  rw [← hD] at hdl
  have hD1 : ∀ v ∈ D, v.oneCell' = true := fun v hv => impl_PutEntry.flat_one xs v (by rw [hD] at hv; exact List.mem_of_mem_drop hv)
  have hcp1 : ∀ ty dc sc, (Builtin.copy_ #[25, 25] ty #[.slice (some ⟨g, (i + 1) * 4, none⟩) (n - i) dc, .slice (some ⟨g, i * 4, none⟩) (n + 1 - i) sc]).run Tryd.prog w.drew = .ok (goInt ((n - i : Nat) : Int)) (w.drew.setCells g ((i + 1) * 4) D) := fun ty dc sc =>
    impl_PutEntry.run_copy_k w.drew _ _ ty 47 g ((i + 1) * 4) (n - i) dc ⟨g, i * 4, none⟩ (n + 1 - i) sc 4 (n - i) D hus hsz (by simp only [Nat.min_def]; split <;> omega) hdl
      (fun j v hj => by rw [Addr.add_lit]; exact hcell _ v (by rwa [hD, List.getElem?_drop] at hj))
      (fun j hj => hsp _ (by omega)) (fun j hj => blk_frozen hb _) hD1
  obtain ⟨W1, hW1⟩ : ∃ W1, W1 = w.drew.setCells g ((i + 1) * 4) D := ⟨_, rfl⟩
  have hsp1 : ∀ k, k < (n + 1) * 4 → (W1.cell? ⟨g, k, none⟩).isSome = true := fun k hk => by
    rw [hW1]
    exact impl_PutEntry.isSome_setCells g D ((i + 1) * 4) w.drew (fun j hj => hsp _ (by omega)) k (hsp k hk)
  have hcp2 : ∀ (W : World), (∀ x, W.cell? x = W1.cell? x) → (∀ x, W.frozen? x = W1.frozen? x) → ∀ ty dc, (Builtin.copy_ #[25, 25] ty #[.slice (some ⟨g, i * 4, none⟩) (n + 1 - i) dc, .slice (some ⟨gv, 0, none⟩) 1 1]).run Tryd.prog W = .ok (goInt 1) (W.setCells g (i * 4) (impl_PutEntry.ec x)) := fun W hWc hWf ty dc =>
    impl_PutEntry.run_copy_k W _ _ ty 47 g (i * 4) (n + 1 - i) dc ⟨gv, 0, none⟩ 1 1 4 1 (impl_PutEntry.ec x) hus hsz (by simp only [Nat.min_def]; split <;> omega) rfl
      (fun j v hj => by
        rw [Addr.add_lit, hWc, hW1, World.cell?_setCells_out g _ _ _ _ (fun h _ => absurd h hne)]
        show w.cell? ⟨gv, 0 + j, none⟩ = some v
        rw [cell_of_row w gv _ _ 47 (0, 0) hv]
        simpa using hj)
      (fun j hj => by rw [hWc]; exact hsp1 _ (by have : (impl_PutEntry.ec x).length = 4 := rfl; omega)) (fun j hj => by rw [hWf, hW1, World.frozen?_setCells]; exact blk_frozen hb _) (fun v hv => impl_PutEntry.flat_one [x] v (by unfold impl_PutEntry.flat; simpa using hv))
  have hz2 : ¬ ((i : Int) = (n : Int)) := by omega
  have hw1 : IntKind.i64.wrap ((i : Int) + 1) = (i : Int) + 1 := by rw [IntKind.wrap_i64]; omega
  have hw2 : IntKind.i64.wrap ((n : Int) + 1) = (n : Int) + 1 := by rw [IntKind.wrap_i64]; omega
  have hb1 : (0 : Int) ≤ (i : Int) + 1 := by omega
  have htn : ((i : Int) + 1).toNat = i + 1 := by omega
  have hb2 : ¬ (cap = i + 1) := by omega
  have hb3 : (i : Int) ≤ (n : Int) + 1 := by omega
  have hb4 : ¬ (cap = i) := by omega
  have hin : i ≤ n := by omega
  rw [← hW1] at hcp1
  go_enter Tryd.func75, Tryd.ntmps75
  go_wp2_with (simp only [hov])
  go_region_law (refine impl_PutEntry.step_copy rfl _ _ 25 25 rfl _ _ (by simp [Act.eval, Act.put]) (by simp [Act.eval, Act.put]) (hcp1 _ _ _) ?_)
  go_wp2_with (at_builtin; refine impl_PutEntry.wpList_copy _ rfl _ _ 25 25 rfl _ _ rfl rfl (hcp2 _ (fun _ => rfl) (fun _ => rfl) _ _) ?_)
  go_ret
  have hec : (impl_PutEntry.ec x).length = 4 := rfl
  obtain ⟨cur1, h3, h4, h5⟩ := setCells_row D ((i + 1) * 4) w.drew cur hb (by omega)
  obtain ⟨cur2, h6, h7, h8⟩ := setCells_row (impl_PutEntry.ec x) (i * 4) _ cur1 h3 (by omega)
  rw [← hD]
  have hlen : (xs.take i ++ x :: xs.drop i).length = n + 1 := by rw [List.length_append, List.length_cons, List.length_take, List.length_drop]; omega
  have hfin : cur2.toList.take ((n + 1) * 4) = impl_PutEntry.flat (xs.take i ++ x :: xs.drop i) := by
    rw [h8, h5, impl_PutEntry.take_ins cur.toList (impl_PutEntry.ec x) D i n hec (by rw [hcur, hD]) hin (by rw [Array.length_toList, hcs]; omega)]
    have h9 : cur.toList.take (i * 4) = impl_PutEntry.flat (xs.take i) := by
      rw [← impl_PutEntry.flat_take xs i (by omega), ← hcur, List.take_take, Nat.min_eq_left (by omega)]
    rw [h9, hD, impl_PutEntry.flat_drop xs i (by omega), List.append_assoc, impl_PutEntry.flat_append]
    rfl
  obtain ⟨s1, s2, s3, s4⟩ := setCells_same g D ((i + 1) * 4) w.drew
  obtain ⟨q1, q2, q3, q4⟩ := setCells_same g (impl_PutEntry.ec x) (i * 4) (w.drew.setCells g ((i + 1) * 4) D)
  refine ⟨rfl, impl_PutEntry.R_of_flat (fun _ _ => trivial) ?_, ⟨by rw [q1, s1]; rfl, by rw [q2, s2]; rfl, by rw [q3, s3]; rfl, by rw [q4, s4]; exact Nat.le_refl _, fun k hk hkg => ?_⟩⟩
  · rw [hlen]
    exact ⟨by rw [impl_PutEntry.flat_length, hlen], .inr ⟨g, cap, cur2, rfl, hbase, h6, hroom, hcap, by omega, hfin⟩⟩
  · have hkg' : k ≠ g := fun he => hkg (by rw [he])
    rw [setCells_far _ _ k hkg', setCells_far _ _ k hkg']
    rfl
set_option maxRecDepth 100000 in
set_option maxHeartbeats 4000000 in
/-- slices.Insert: no room: a new row. -/
theorem impl_PutEntry.ins_grow (x : S47) (xs : List S47) (i n g gv cap base : Nat) (hn : xs.length = n) (cur : Array Value) (w : World) (hi : i < n) (hroom : cap < n + 1) (hnc : n ≤ cap) (hbig : (n + 1) * 48 ≤ 140737488355328) (hbase : base ≤ w.heap.size)
    (hb : w.heap[g]? = some (.cells cur 47 (0, 0))) (hcs : cur.size = cap * 4) (hcur : cur.toList.take (n * 4) = impl_PutEntry.flat xs) (hv : w.heap[gv]? = some (.cells (impl_PutEntry.ec x).toArray 47 (0, 0))) :
    Calls Tryd.prog 75 #[.slice (some ⟨g, 0, none⟩) n cap, .int .i64 i, .slice (some ⟨gv, 0, none⟩) 1 1] w fun e w' =>
      ∃ G, e = .returned (.slice (some ⟨w.heap.size, 0, none⟩) (n + 1) G) ∧ Kd.R k47 47 w' base (fun _ => True) (.slice (some ⟨w.heap.size, 0, none⟩) (n + 1) G) (xs.take i ++ x :: xs.drop i) ∧ w.grownBy w' (some g) := by
  have hu := Tryd.underlying47
  have hus := Tryd.underlying25
  have hui := Tryd.underlying3
  obtain ⟨i0, hi0, hz⟩ := Option.map_eq_some_iff.1 info47
  simp only [Prod.mk.injEq] at hz
  obtain ⟨hz0, hzs, hzb⟩ := hz
  have hsz : (Tryd.prog.info? 47).map (·.size) = some 4 := by rw [hi0]; simp [hzs]
  have hgw : g < w.heap.size := blk_lt hb
  have hvw : gv < w.heap.size := blk_lt hv
  have hcell : ∀ j v, (impl_PutEntry.flat xs)[j]? = some v → w.cell? ⟨g, j, none⟩ = some v := fun j v hj => by
    rw [← hcur, List.getElem?_take] at hj
    split at hj
    · rw [cell_of_row w g _ cur 47 (0, 0) hb]
      simpa using hj
    · cases hj
  have hfl := impl_PutEntry.flat_length xs
  rw [hn] at hfl
  have hdl : ((impl_PutEntry.flat xs).drop (i * 4)).length = (n - i) * 4 := by rw [List.length_drop, hfl]; omega
  have htl : ((impl_PutEntry.flat xs).take (i * 4)).length = i * 4 := by rw [List.length_take, hfl]; omega
  obtain ⟨D, hD⟩ : ∃ D, D = (impl_PutEntry.flat xs).drop (i * 4) := ⟨_, rfl⟩
  obtain ⟨T, hT⟩ : ∃ T, T = (impl_PutEntry.flat xs).take (i * 4) := ⟨_, rfl⟩
  rw [← hD] at hdl
  rw [← hT] at htl
  have hD1 : ∀ v ∈ D, v.oneCell' = true := fun v hv => impl_PutEntry.flat_one xs v (by rw [hD] at hv; exact List.mem_of_mem_drop hv)
  have hkk : (n : Int) + 1 - (i : Int) = ((n + 1 - i : Nat) : Int) := by omega
  have hik : i + (n + 1 - i) = n + 1 := by omega
  have hold : (Builtin.firstCells i0.size i (.slice (some ⟨g, 0, none⟩) i cap)).run Tryd.prog w.drew = .ok T.toArray w.drew := by
    rw [hzs]
    exact run_firstCells_some w.drew 4 i ⟨g, 0, none⟩ i cap T htl (fun j v hj => by
      rw [Addr.add_lit, Nat.zero_add]
      rw [hT, List.getElem?_take] at hj
      split at hj
      · exact hcell j v hj
      · cases hj)
  have hrz : ∀ ty, (Builtin.append_ #[25, 3] ty #[.slice (some ⟨g, 0, none⟩) i cap, .int .i64 ((n : Int) + 1 - (i : Int))]).run Tryd.prog w =
      .ok (.slice (some ⟨w.heap.size, 0, none⟩) (n + 1) (grownCap w (n + 1) cap 47)) (w.drew.alloc (.cells (T.toArray ++ Builtin.zeroCells (Value.agg #[(.string ⟨#[]⟩), (.int .i64 0), (.string ⟨#[]⟩), (.bool false)]).cells (n + 1 - i) ++ Builtin.zeroCells (Value.agg #[(.string ⟨#[]⟩), (.int .i64 0), (.string ⟨#[]⟩), (.bool false)]).cells (grownCap w (n + 1) cap 47 - (n + 1))) 47)) := fun ty => by
    have h := Lib.run_append_grow_zeros w 25 3 ty 47 i0 _ .i64 .i64 hus hui hi0 hz0 (some ⟨g, 0, none⟩) i cap T hold (n + 1 - i) (by omega) (by omega) (by omega) (by omega) (by rw [hzb]; omega) (by rw [hzb, hik]; exact growslice_fits hroom hbig)
    rw [hik] at h
    rw [hkk]
    exact h
  obtain ⟨G, hG⟩ : ∃ G, G = grownCap w (n + 1) cap 47 := ⟨_, rfl⟩
  obtain ⟨ROW, hROW⟩ : ∃ ROW : Array Value, ROW = T.toArray ++ Builtin.zeroCells (Value.agg #[(.string ⟨#[]⟩), (.int .i64 0), (.string ⟨#[]⟩), (.bool false)]).cells (n + 1 - i) ++ Builtin.zeroCells (Value.agg #[(.string ⟨#[]⟩), (.int .i64 0), (.string ⟨#[]⟩), (.bool false)]).cells (G - (n + 1)) := ⟨_, rfl⟩
  rw [← hG] at hrz
  rw [← hROW] at hrz
  have hGn : n + 1 ≤ G := by rw [hG]; exact grownCap_ge w _ _ _
  have hG63 : G ≤ 9223372036854775807 := by
    have := grownCap_le_maxLen w (n + 1) cap 47 (by unfold maxLen; omega)
    rw [← hG] at this
    unfold maxLen at this
    omega
  have hzl : ∀ m, (Builtin.zeroCells (Value.agg #[(.string ⟨#[]⟩), (.int .i64 0), (.string ⟨#[]⟩), (.bool false)]).cells m).size = m * 4 := fun m => by simp [Builtin.zeroCells, Value.cells]
  have hRs : ROW.size = G * 4 := by
    rw [hROW, Array.size_append, Array.size_append, hzl, hzl, List.size_toArray, htl]
    omega
  have hRt : ROW.toList.take (i * 4) = T := by
    rw [hROW]
    simp only [Array.toList_append, List.append_assoc]
    rw [← htl, List.take_left]
  have hec : (impl_PutEntry.ec x).length = 4 := rfl
  obtain ⟨W1, hW1⟩ : ∃ W1, W1 = w.drew.alloc (.cells ROW 47) := ⟨_, rfl⟩
  rw [← hW1] at hrz
  have hN : ∀ j, j < (n + 1) * 4 → (W1.cell? ⟨w.heap.size, j, none⟩).isSome = true := fun j hj => by
    rw [hW1, World.cell?_alloc_at (w := w.drew) ROW _ w.heap.size j rfl, Array.getElem?_eq_getElem (by omega)]; rfl
  have hNf : ∀ j, W1.frozen? ⟨w.heap.size, j, none⟩ = false := fun j => by rw [hW1]; exact World.frozen?_alloc_at (w := w.drew) ROW _ w.heap.size j rfl
  have hOb : ∀ j v, w.cell? ⟨g, j, none⟩ = some v → W1.cell? ⟨g, j, none⟩ = some v := fun j v h => by rw [hW1, World.cell?_alloc_past (w := w.drew) _ g j hgw]; exact h
  have hOv : ∀ j v, w.cell? ⟨gv, j, none⟩ = some v → W1.cell? ⟨gv, j, none⟩ = some v := fun j v h => by rw [hW1, World.cell?_alloc_past (w := w.drew) _ gv j hvw]; exact h
  have hcpA : ∀ (W : World), (∀ x, W.cell? x = W1.cell? x) → (∀ x, W.frozen? x = W1.frozen? x) → ∀ ty dc, (Builtin.copy_ #[25, 25] ty #[.slice (some ⟨w.heap.size, i * 4, none⟩) (n + 1 - i) dc, .slice (some ⟨gv, 0, none⟩) 1 1]).run Tryd.prog W = .ok (goInt 1) (W.setCells w.heap.size (i * 4) (impl_PutEntry.ec x)) := fun W hWc hWf ty dc =>
    impl_PutEntry.run_copy_k W _ _ ty 47 w.heap.size (i * 4) (n + 1 - i) dc ⟨gv, 0, none⟩ 1 1 4 1 (impl_PutEntry.ec x) hus hsz (by simp only [Nat.min_def]; split <;> omega) rfl
      (fun j v hj => by
        rw [Addr.add_lit, hWc]
        refine hOv _ v ?_
        rw [cell_of_row w gv _ _ 47 (0, 0) hv, Nat.zero_add]
        simpa using hj)
      (fun j hj => by rw [hWc]; exact hN _ (by omega)) (fun j hj => by rw [hWf]; exact hNf _) (fun v hv => impl_PutEntry.flat_one [x] v (by unfold impl_PutEntry.flat; simpa using hv))
  have hbN : g ≠ w.heap.size := by omega
  have hcpB : ∀ (W : World), (∀ y, W.cell? y = (W1.setCells w.heap.size (i * 4) (impl_PutEntry.ec x)).cell? y) → (∀ y, W.frozen? y = (W1.setCells w.heap.size (i * 4) (impl_PutEntry.ec x)).frozen? y) → ∀ ty dc sc, (Builtin.copy_ #[25, 25] ty #[.slice (some ⟨w.heap.size, (i + 1) * 4, none⟩) (n - i) dc, .slice (some ⟨g, i * 4, none⟩) (n - i) sc]).run Tryd.prog W = .ok (goInt ((n - i : Nat) : Int)) (W.setCells w.heap.size ((i + 1) * 4) D) := fun W hWc hWf ty dc sc =>
    impl_PutEntry.run_copy_k W _ _ ty 47 w.heap.size ((i + 1) * 4) (n - i) dc ⟨g, i * 4, none⟩ (n - i) sc 4 (n - i) D hus hsz (by simp [Nat.min_def]) hdl
      (fun j v hj => by
        rw [Addr.add_lit, hWc, World.cell?_setCells_out _ _ _ _ _ (fun h _ => absurd h hbN)]
        exact hOb _ v (hcell _ v (by rwa [hD, List.getElem?_drop] at hj)))
      (fun j hj => by rw [hWc]; exact impl_PutEntry.isSome_setCells w.heap.size (impl_PutEntry.ec x) (i * 4) W1 (fun t ht => hN _ (by omega)) _ (hN _ (by omega)))
      (fun j hj => by rw [hWf, World.frozen?_setCells]; exact hNf _) hD1
  subst hW1
  have hE1 : ∀ y, ((w.alloc (.cells ROW 47)).drew).cell? y = (w.drew.alloc (.cells ROW 47)).cell? y := fun y => rfl
  have hE2 : ∀ y, ((w.alloc (.cells ROW 47)).drew).frozen? y = (w.drew.alloc (.cells ROW 47)).frozen? y := fun y => rfl
  have hz2 : ¬ ((i : Int) = (n : Int)) := by omega
  have hz3 : (cap : Int) < (n : Int) + 1 := by omega
  have hF1 : ∀ y, (((w.alloc (.cells ROW 47)).drew.setCells w.heap.size (i * 4) (impl_PutEntry.ec x)).drew).cell? y = ((w.drew.alloc (.cells ROW 47)).setCells w.heap.size (i * 4) (impl_PutEntry.ec x)).cell? y := fun y => rfl
  have hF2 : ∀ y, (((w.alloc (.cells ROW 47)).drew.setCells w.heap.size (i * 4) (impl_PutEntry.ec x)).drew).frozen? y = ((w.drew.alloc (.cells ROW 47)).setCells w.heap.size (i * 4) (impl_PutEntry.ec x)).frozen? y := fun y => rfl
  have hF3 : ∀ y, (((w.drew.alloc (.cells ROW 47)).setCells w.heap.size (i * 4) (impl_PutEntry.ec x)).drew).cell? y = ((w.drew.alloc (.cells ROW 47)).setCells w.heap.size (i * 4) (impl_PutEntry.ec x)).cell? y := fun y => rfl
  have hF4 : ∀ y, (((w.drew.alloc (.cells ROW 47)).setCells w.heap.size (i * 4) (impl_PutEntry.ec x)).drew).frozen? y = ((w.drew.alloc (.cells ROW 47)).setCells w.heap.size (i * 4) (impl_PutEntry.ec x)).frozen? y := fun y => rfl
  have hw1 : IntKind.i64.wrap ((i : Int) + 1) = (i : Int) + 1 := by rw [IntKind.wrap_i64]; omega
  have hw2 : IntKind.i64.wrap ((n : Int) + 1) = (n : Int) + 1 := by rw [IntKind.wrap_i64]; omega
  have hw3 : IntKind.i64.wrap ((n : Int) + 1 - (i : Int)) = (n : Int) + 1 - (i : Int) := by rw [IntKind.wrap_i64]; omega
  have hb1 : (0 : Int) ≤ (i : Int) + 1 := by omega
  have htn : ((i : Int) + 1).toNat = i + 1 := by omega
  have hGi : ¬ (G = i) := by omega
  have hGim : ¬ (G = i + 1) := by omega
  have hci : ¬ (cap = i) := by omega
  have hin : i ≤ n := by omega
  have hb3 : (i : Int) ≤ (n : Int) := by omega
  have hb4 : (i : Int) ≤ (n : Int) + 1 := by omega
  have hb5 : i ≤ cap := by omega
  clear hkk hik hold hROW hG
  go_enter Tryd.func75, Tryd.ntmps75
  go_wp2_with (first
    | (at_builtin; refine Lib.wpList_append_run _ rfl _ _ _ _ rfl _ _ rfl rfl _ _ (hrz _) ?_)
    | (at_builtin; refine impl_PutEntry.wpList_copy _ rfl _ _ 25 25 rfl _ _ rfl rfl (hcpA _ hE1 hE2 _ _) ?_)
    | (at_builtin; refine impl_PutEntry.wpList_copy _ rfl _ _ 25 25 rfl _ _ rfl rfl (hcpA _ (fun _ => rfl) (fun _ => rfl) _ _) ?_))
  go_region_law (refine impl_PutEntry.step_copy rfl _ _ 25 25 rfl (.slice (some ⟨w.heap.size, (i + 1) * 4, none⟩) (n - i) (G - (i + 1))) (.slice (some ⟨g, i * 4, none⟩) (n - i) (cap - i)) (by simp [Act.eval, Act.put]) (by simp [Act.eval, Act.put]) (hcpB _ hF1 hF2 3 (G - (i + 1)) (cap - i)) ?_)
  go_wp2
  go_ret
  have hb0 : (w.alloc (.cells ROW 47)).drew.heap[w.heap.size]? = some (.cells ROW 47 (0, 0)) := by show (w.heap.push _)[w.heap.size]? = _; simp
  obtain ⟨cur1, h3, h4, h5⟩ := setCells_row (impl_PutEntry.ec x) (i * 4) _ ROW hb0 (by omega)
  have h3d : ((w.alloc (.cells ROW 47)).drew.setCells w.heap.size (i * 4) (impl_PutEntry.ec x)).drew.heap[w.heap.size]? = some (.cells cur1 47 (0, 0)) := h3
  obtain ⟨cur2, h6, h7, h8⟩ := setCells_row D ((i + 1) * 4) _ cur1 h3d (by omega)
  rw [← hD]
  have hlen : (xs.take i ++ x :: xs.drop i).length = n + 1 := by rw [List.length_append, List.length_cons, List.length_take, List.length_drop]; omega
  have h9 : cur1.toList.take ((i + 1) * 4) = T ++ impl_PutEntry.ec x := by
    rw [h5, hRt, List.take_append_of_le_length (by rw [List.length_append]; omega), List.take_of_length_le (by rw [List.length_append]; omega)]
  have hfin : cur2.toList.take ((n + 1) * 4) = impl_PutEntry.flat (xs.take i ++ x :: xs.drop i) := by
    have h10 : (T ++ impl_PutEntry.ec x ++ D).length = (n + 1) * 4 := by rw [List.length_append, List.length_append]; omega
    rw [h8, h9, ← h10, List.take_left, hT, hD, impl_PutEntry.flat_take xs i (by omega), impl_PutEntry.flat_drop xs i (by omega), List.append_assoc, impl_PutEntry.flat_append]
    rfl
  obtain ⟨s1, s2, s3, s4⟩ := setCells_same w.heap.size (impl_PutEntry.ec x) (i * 4) (w.alloc (.cells ROW 47)).drew
  obtain ⟨q1, q2, q3, q4⟩ := setCells_same w.heap.size D ((i + 1) * 4) ((w.alloc (.cells ROW 47)).drew.setCells w.heap.size (i * 4) (impl_PutEntry.ec x)).drew
  refine ⟨G, rfl, impl_PutEntry.R_of_flat (fun _ _ => trivial) ?_, ⟨by rw [q1]; exact s1, by rw [q2]; exact s2, by rw [q3]; exact s3, by rw [q4]; show w.heap.size ≤ ((w.alloc (.cells ROW 47)).drew.setCells w.heap.size (i * 4) (impl_PutEntry.ec x)).heap.size; rw [s4]; show w.heap.size ≤ (w.heap.push _).size; rw [Array.size_push]; omega, fun k hk hkg => ?_⟩⟩
  · rw [hlen]
    exact ⟨by rw [impl_PutEntry.flat_length, hlen], .inr ⟨w.heap.size, G, cur2, rfl, hbase, h6, hGn, hG63, by omega, hfin⟩⟩
  · have hkg' : k ≠ w.heap.size := by omega
    rw [setCells_far _ _ k hkg']
    show ((w.alloc (.cells ROW 47)).drew.setCells w.heap.size (i * 4) (impl_PutEntry.ec x)).heap[k]? = _
    rw [setCells_far _ _ k hkg']
    show (w.heap.push _)[k]? = _
    rw [Array.getElem?_push_lt hk, Array.getElem?_eq_getElem hk]
set_option maxRecDepth 100000 in
set_option maxHeartbeats 4000000 in
/-- slices.Insert of one entry into a row of the call's own. -/
theorem impl_PutEntry.insert (x : S47) (xs : List S47) (i base gv : Nat) (v : Value) (w w0 : World) (hi : i ≤ xs.length) (hbig : xs.length ≤ 1000000) (hB : Below base w0 w) (hbase : base ≤ w.heap.size) (hO : Kd.R k47 47 w base (fun _ => True) v xs)
    (hv : w.heap[gv]? = some (.cells (impl_PutEntry.ec x).toArray 47 (0, 0))) (hne : some gv ≠ v.ownBlock) :
    Calls Tryd.prog 75 #[v, .int .i64 i, .slice (some ⟨gv, 0, none⟩) 1 1] w fun e w' =>
      ∃ v', e = .returned v' ∧ Kd.R k47 47 w' base (fun _ => True) v' (xs.take i ++ x :: xs.drop i) ∧ Below base w0 w' := by
  by_cases hin : i = xs.length
  · subst hin
    obtain ⟨A, c, rfl, hc, hC⟩ := Kd.R_reads hO
    have hrow : Kd.C k47 w (some ⟨gv, 0, none⟩) 1 [x] := ⟨rfl, by omega, fun _ => ⟨⟨gv, 0, none⟩, rfl, fun j p hj => by
      have hj0 : j = 0 := by have := (List.getElem?_eq_some_iff.1 hj).1; simp at this; omega
      subst hj0
      have hp : x = p := by simpa using hj
      subst hp
      refine ⟨impl_PutEntry.ec x, rfl, k47_mk w x, fun i u hu => ?_⟩
      rw [Addr.add_lit, cell_of_row w gv _ _ 47 (0, 0) hv, Nat.zero_mul, Nat.zero_add, Nat.zero_add]
      simpa using hu⟩⟩
    have HO := Aside0.mk hO
    have HB := Aside0.mk hB
    have HC := Aside0.mk hrow
    have HN := Aside0.mk (And.intro hC hc)
    have hl0 : ∀ (hA : A = none), xs.length = 0 := fun hA => by
      rcases Nat.eq_zero_or_pos xs.length with h | h
      · exact h
      · obtain ⟨ad, had, _⟩ := hC.2.2 h
        rw [hA] at had; cases had
    have hu := Tryd.underlying47
    have hus := Tryd.underlying25
    clear hO hB hrow hC hv hne
    have hcc : xs.length ≤ c := hc
    clear hc
    go_enter Tryd.func75, Tryd.ntmps75
    cases A with
    | none =>
      have h0 := hl0 rfl
      go_wp2_with (((with_reducible refine gate_builtin (b := .append) (xs := #[.tmp 23, .tmp 24]) rfl ?_); refine Kd.R_append_rows k47 (w0 := w0) base rfl (.tmp 23) (.tmp 24) 25 47 (.agg #[(.string ⟨#[]⟩), (.int .i64 0), (.string ⟨#[]⟩), (.bool false)]) 48 rfl hus info47 rfl (by decide) (by omega) _ xs [x] _ _ _ (fun _ => True) (fun _ => False) rfl rfl HO.out HC.out (fun _ _ h => h) (fun _ h => h.elim) (fun _ _ => trivial) HB.out hbase (by omega) ?_; intro v391 w5 ho hb hg hat))
      go_ret
      refine ⟨_, rfl, ?_, hb⟩
      obtain rfl := List.length_eq_zero_iff.1 h0
      exact ho
    | some ad =>
      obtain ⟨ab, ao, asp⟩ := ad
      go_wp2_with (((with_reducible refine gate_builtin (b := .append) (xs := #[.tmp 23, .tmp 24]) rfl ?_); refine Kd.R_append_rows k47 (w0 := w0) base rfl (.tmp 23) (.tmp 24) 25 47 (.agg #[(.string ⟨#[]⟩), (.int .i64 0), (.string ⟨#[]⟩), (.bool false)]) 48 rfl hus info47 rfl (by decide) (by omega) _ xs [x] _ _ _ (fun _ => True) (fun _ => False) rfl rfl HO.out HC.out (fun _ _ h => h) (fun _ h => h.elim) (fun _ _ => trivial) HB.out hbase (by omega) ?_; intro v391 w5 ho hb hg hat))
      all_goals (
        go_ret
        refine ⟨_, rfl, ?_, hb⟩
        first | exact ho | (rw [List.take_length, List.drop_length]; exact ho) | simpa using ho)
  · have hf := impl_PutEntry.R_flat hO
    have hob := own_base hf
    rcases hf.2 with ⟨rfl, h0⟩ | ⟨g, cap, cur, rfl, hbg, hb, hnc, hcm, hcs, hcur⟩
    · omega
    have hgne : gv ≠ g := fun he => hne (by rw [he]; rfl)
    have hcap : cap ≤ 9223372036854775807 := hcm
    rcases Nat.lt_or_ge cap (xs.length + 1) with hlt | hge
    · exact (impl_PutEntry.ins_grow x xs i xs.length g gv cap base rfl cur w (by omega) hlt hnc (by omega) hbase hb hcs hcur hv).mono fun e w' ⟨G, he, hR, hg⟩ => ⟨_, he, hR, hB.grown hg hbase hob⟩
    · exact (impl_PutEntry.ins_room x xs i xs.length g gv cap base rfl cur w (by omega) hge hcap hgne hbg hb hcs hcur hv).mono fun e w' ⟨he, hR, hg⟩ => ⟨_, he, hR, hB.grown hg hbase hob⟩
def impl_PutEntry.gtB (p : ByteArray) (e : S47) : Bool := Op.bytesLess p.toList e.f0.toList
set_option maxHeartbeats 400000 in
theorem impl_PutEntry.cl (x : S47) (p : ByteArray) (g : Nat) (w : World) (hb : w.cell? ⟨g, 0, none⟩ = some (.string p)) (hg : g < w.heap.size) :
  Calls Tryd.prog 74 #[.agg #[.string x.f0, .int .i64 x.f1, .string x.f2, .bool x.f3], .pointer (some ⟨g, 0, none⟩)] w fun e w' => e = .returned (.bool (impl_PutEntry.gtB p x)) ∧ Below w.heap.size w w' := by
  have hu47 := Tryd.underlying47
  go_enter Tryd.func74, Tryd.ntmps74
  go_wp2
  go_ret
  exact ⟨rfl, by repeat (first | (with_reducible first | exact Below.refl _ _ | apply below_alloc | apply pw_below_drewN | apply below_drew1) | exact Below.refl _ _)⟩
def impl_PutEntry.first (q : S47 → Bool) : List S47 → Int → Int
  | [], _ => -1
  | e :: t, i => if q e = true then i else impl_PutEntry.first q t (i + 1)
theorem impl_PutEntry.fi_end (q : S47 → Bool) (l : List S47) (i : Nat) (h : l.length ≤ i) : impl_PutEntry.first q (l.drop i) i = -1 := by
  rw [List.drop_eq_nil_of_le h]; rfl
theorem impl_PutEntry.fi_yes (q : S47 → Bool) (l : List S47) (i : Nat) (h : i < l.length) (hc : q (rd_T47 l i) = true) : impl_PutEntry.first q (l.drop i) i = i := by
  rw [List.drop_eq_getElem_cons h, impl_PutEntry.first, if_pos]
  simpa [rd_T47, List.getD_eq_getElem?_getD, List.getElem?_eq_getElem h] using hc
theorem impl_PutEntry.fi_no (q : S47 → Bool) (l : List S47) (i : Nat) (h : i < l.length) (hc : q (rd_T47 l i) = false) : impl_PutEntry.first q (l.drop i) i = impl_PutEntry.first q (l.drop (i + 1)) ((i + 1 : Nat) : Int) := by
  rw [List.drop_eq_getElem_cons h, impl_PutEntry.first, if_neg]
  · rfl
  · simpa [rd_T47, List.getD_eq_getElem?_getD, List.getElem?_eq_getElem h] using hc
set_option maxRecDepth 100000 in
set_option maxHeartbeats 1000000 in
theorem impl_PutEntry.indexFunc (A0 : Option Addr) (c0 : Nat) (l0 : List S47) (p : ByteArray) (g : Nat) (w : World) (hr0 : Kd.C k47 w A0 l0.length l0) (hc0 : l0.length ≤ c0) (hb : w.cell? ⟨g, 0, none⟩ = some (.string p)) (hg : g < w.heap.size) :
  Calls Tryd.prog 73 #[.slice A0 l0.length c0, .func (.func 74) #[] #[.pointer (some ⟨g, 0, none⟩)]] w fun e w' => e = .returned (.int .i64 (impl_PutEntry.first (impl_PutEntry.gtB p) l0 0)) ∧ Below w.heap.size w w' := by
  have hu47 := Tryd.underlying47
  have HR0 := Aside0.mk hr0
  have HC0 := Aside0.mk hc0
  have HX := Aside0.mk (And.intro hb hg)
  have hl := hr0.2.1
  clear hr0 hc0 hb hg
  have HB := Aside0.mk (Below.refl w.heap.size w)
  go_enter Tryd.func73, Tryd.ntmps73
  go_wp2
  go_loopw [8] (fun v8 w' => ∃ i : Nat, v8 = .int .i64 i ∧ i ≤ l0.length ∧ Aside0 (impl_PutEntry.first (impl_PutEntry.gtB p) l0 0 = impl_PutEntry.first (impl_PutEntry.gtB p) (l0.drop i) i) ∧ Aside0 (Below w.heap.size w w')) (fun v8 _ => l0.length - (intOf v8).toNat)
  case atStart => exact ⟨0, rfl, Nat.zero_le _, ⟨rfl⟩, ⟨Below.refl _ _⟩⟩
  case round =>
    clear HB
    obtain ⟨i, rfl, hi, HF, HB⟩ := hrel
    by_cases hlt : i < l0.length
    · have p1 : 0 ≤ (i : Int) := by omega
      have q1 : (i : Int) < (l0.length : Int) := by omega
      obtain ⟨ad, e1, hx_0, hx_1, hx_2, hx_3⟩ := at_T47 HR0.out i p1 q1
      cases e1
      replace hx_0 := (HB.out.cell (World.block_lt_of_cell? w _ hx_0)).trans hx_0
      replace hx_1 := (HB.out.cell (World.block_lt_of_cell? w _ hx_1)).trans hx_1
      replace hx_2 := (HB.out.cell (World.block_lt_of_cell? w _ hx_2)).trans hx_2
      replace hx_3 := (HB.out.cell (World.block_lt_of_cell? w _ hx_3)).trans hx_3
      simp only [Int.toNat_natCast] at hx_0 hx_1 hx_2 hx_3
      have hbx := (HB.out.cell (World.block_lt_of_cell? w _ HX.out.1)).trans HX.out.1
      have hs := HB.out.size
      have c1 : decide ((i : Int) < (l0.length : Int)) = true := by simpa using hlt
      have c2 : decide ((i : Nat) < l0.length) = true := by simpa using hlt
      cases hcc : impl_PutEntry.gtB p (rd_T47 l0 i) with
      | true =>
        have HCC := Aside0.mk hcc
        clear hcc
        go_wp2_with (go_at_call 74; refine (impl_PutEntry.cl (rd_T47 l0 i) p g _ hbx (by have := HX.out.2; omega)).mono ?_; rintro e w8 ⟨rfl, hb8⟩; rw [HCC.out])
        go_ret
        refine ⟨?_, below_step HB.out hb8⟩
        rw [HF.out, impl_PutEntry.fi_yes _ l0 i hlt HCC.out]
        rfl
      | false =>
        have HCC := Aside0.mk hcc
        clear hcc
        have hw : wrap64 ((i : Int) + 1) = ((i + 1 : Nat) : Int) := by unfold wrap64; omega
        go_wp2_with (go_at_call 74; refine (impl_PutEntry.cl (rd_T47 l0 i) p g _ hbx (by have := HX.out.2; omega)).mono ?_; rintro e w8 ⟨rfl, hb8⟩; rw [HCC.out])
        go_roundw
        case rel => exact ⟨i + 1, by first | rfl | (rw [hw]) | (congr 1), by omega, ⟨by rw [HF.out, impl_PutEntry.fi_no _ l0 i hlt HCC.out]⟩, ⟨below_step HB.out hb8⟩⟩
        case measure => simp [intOf]; omega
    · have c1 : decide ((i : Int) < (l0.length : Int)) = false := by simpa using hlt
      have c2 : decide ((i : Nat) < l0.length) = false := by simpa using hlt
      go_wp2
      go_ret
      refine ⟨?_, HB.out⟩
      rw [HF.out, impl_PutEntry.fi_end _ l0 i (by omega)]
      rfl
def impl_PutEntry.put (y : List S47) (x : S47) (i : Int) : Option (List S47) := if i < 0 then (if impl_PutEntry.first (impl_PutEntry.gtB x.f0) y 0 < 0 then some (y.take y.length ++ x :: y.drop y.length) else if impl_PutEntry.first (impl_PutEntry.gtB x.f0) y 0 ≤ (y.length : Int) then some (y.take (impl_PutEntry.first (impl_PutEntry.gtB x.f0) y 0).toNat ++ x :: y.drop (impl_PutEntry.first (impl_PutEntry.gtB x.f0) y 0).toNat) else none) else if i < (y.length : Int) then some (y.set i.toNat x) else none
def impl_PutEntry.f (k : Nat) (l0 : List S47) (a1_0 : ByteArray) (a1_1 : Int) (a1_2 : ByteArray) (a1_3 : Bool) : Option (List S47 × Bool) := (impl_TreeOk.f k l0).bind fun t => if t = true then (impl_cloneTree.f l0).bind fun y => (impl_entryAt.f y a1_0).bind fun i => if y.length ≤ 1000000 then (impl_PutEntry.put y ⟨a1_0, a1_1, a1_2, a1_3⟩ i).bind fun z => (impl_TreeOk.f k z).bind fun t2 => if t2 = true then some (z, true) else some (y, false) else none else some ([], false)
set_option maxRecDepth 100000 in
set_option maxHeartbeats 4000000 in
theorem impl_PutEntry.calls (k : Nat) (A0 : Option Addr) (c0 : Nat) (l0 : List (S47)) (a1_0 : ByteArray) (a1_1 : Int) (a1_2 : ByteArray) (a1_3 : Bool) (r1 : List (S47)) (r2 : Bool) (w : World) (hE : EnvW w) (hr0 : Kd.C k47 w A0 l0.length l0) (hc0 : l0.length ≤ c0) (h : impl_PutEntry.f k l0 a1_0 a1_1 a1_2 a1_3 = some (r1, r2)) :
    Calls Tryd.prog 35 #[.slice A0 l0.length c0, .agg #[.string a1_0, .int .i64 a1_1, .string a1_2, .bool a1_3]] w fun e w' => ∃ v0_ : Value, e = .returned (.tuple #[v0_, .bool r2]) ∧ Kd.R k47 47 w' w.heap.size (fun _ => True) v0_ r1 ∧ Below w.heap.size w w' := by
  unfold impl_PutEntry.f at h
  obtain ⟨t, ht, h⟩ := Option.bind_eq_some_iff.mp h
  have hu47 := Tryd.underlying47
  have hus := Tryd.underlying25
  -- the world behind the box
  have hb1 : Below w.heap.size w (w.alloc (.cells #[.string a1_0, .int .i64 a1_1, .string a1_2, .bool a1_3] 47)) := below_alloc (Below.refl _ _) _
  have HB1 := Aside0.mk hb1
  have HT := Aside0.mk ht
  have HE1 := Aside0.mk (EnvW.below hE hb1)
  have HR1 := Aside0.mk (And.intro (Kd.C_below hr0 hb1) hc0)
  obtain ⟨gb, hgb⟩ : ∃ gb, gb = w.heap.size := ⟨_, rfl⟩
  have HQ := Aside0.mk (show (w.alloc (.cells #[.string a1_0, .int .i64 a1_1, .string a1_2, .bool a1_3] 47)).cell? ⟨w.heap.size, 0, none⟩ = some (.string a1_0) ∧ (w.alloc (.cells #[.string a1_0, .int .i64 a1_1, .string a1_2, .bool a1_3] 47)).cell? ⟨w.heap.size, 1, none⟩ = some (.int .i64 a1_1) ∧ (w.alloc (.cells #[.string a1_0, .int .i64 a1_1, .string a1_2, .bool a1_3] 47)).cell? ⟨w.heap.size, 2, none⟩ = some (.string a1_2) ∧ (w.alloc (.cells #[.string a1_0, .int .i64 a1_1, .string a1_2, .bool a1_3] 47)).cell? ⟨w.heap.size, 3, none⟩ = some (.bool a1_3) ∧ w.heap.size < (w.alloc (.cells #[.string a1_0, .int .i64 a1_1, .string a1_2, .bool a1_3] 47)).heap.size from ⟨by simp [go_sem], by simp [go_sem], by simp [go_sem], by simp [go_sem], by show _ < (w.heap.push _).size; rw [Array.size_push]; omega⟩)
  have HEE := Aside0.mk hE
  have HRR := Aside0.mk (And.intro hr0 hc0)
  clear hb1 ht hE hr0 hc0 hgb
  cases t with
  | false =>
    rw [if_neg (by decide)] at h
    obtain ⟨rfl, rfl⟩ := Prod.mk.inj (Option.some.inj h)
    clear h
    go_enter Tryd.func35, Tryd.ntmps35
    go_wp2_with (go_at_call 46; refine (impl_TreeOk.calls k A0 c0 l0 false _ HE1.out HR1.out.1 HR1.out.2 HT.out).mono ?_; rintro e w8 ⟨rfl, hb8⟩)
    exact bodyPost_ret (v := .tuple #[.slice none 0 0, .bool false]) (by simp [results, Tryd.results35, go_sem]) rfl ⟨_, rfl, Kd.R_nil _ _ _ _ _, below_step HB1.out hb8⟩
  | true =>
    rw [if_pos rfl] at h
    obtain ⟨y, hy, h⟩ := Option.bind_eq_some_iff.mp h
    obtain ⟨i, hi, h⟩ := Option.bind_eq_some_iff.mp h
    by_cases hyl : y.length ≤ 1000000
    case neg => rw [if_neg hyl] at h; cases h
    rw [if_pos hyl] at h
    obtain ⟨z, hz, h⟩ := Option.bind_eq_some_iff.mp h
    obtain ⟨t2, ht2, h⟩ := Option.bind_eq_some_iff.mp h
    have HY := Aside0.mk (And.intro hy hi)
    have HT2 := Aside0.mk ht2
    clear hy hi ht2
    unfold impl_PutEntry.put at hz
    by_cases hneg : i < 0
    · rw [if_pos hneg] at hz
      have cn : decide (i < 0) = true := decide_eq_true hneg
      by_cases hk : impl_PutEntry.first (impl_PutEntry.gtB a1_0) y 0 < 0
      · have hz : (if impl_PutEntry.first (impl_PutEntry.gtB a1_0) y 0 < 0 then some (y.take y.length ++ (⟨a1_0, a1_1, a1_2, a1_3⟩ : S47) :: y.drop y.length) else if impl_PutEntry.first (impl_PutEntry.gtB a1_0) y 0 ≤ (y.length : Int) then some (y.take (impl_PutEntry.first (impl_PutEntry.gtB a1_0) y 0).toNat ++ (⟨a1_0, a1_1, a1_2, a1_3⟩ : S47) :: y.drop (impl_PutEntry.first (impl_PutEntry.gtB a1_0) y 0).toNat) else none) = some z := hz
        rw [if_pos hk] at hz
        have HZ := Aside0.mk (Option.some.inj hz)
        clear hz
        have ck : decide (impl_PutEntry.first (impl_PutEntry.gtB a1_0) y 0 < 0) = true := decide_eq_true hk
        cases t2 with
        | true =>
          obtain ⟨rfl, rfl⟩ := Prod.mk.inj (Option.some.inj h)
          clear h
          go_enter Tryd.func35, Tryd.ntmps35
          go_wp2_with (first | (go_at_call 46; (with_reducible refine (impl_TreeOk.calls k A0 c0 l0 true _ HE1.out HR1.out.1 HR1.out.2 HT.out).mono ?_); rintro e w8 ⟨rfl, hb8⟩; clear HT) | (go_at_call 59; (with_reducible refine (impl_cloneTree.calls A0 c0 l0 y _ (Kd.C_below HR1.out.1 hb8) HR1.out.2 HY.out.1).mono ?_); rintro e w9 ⟨vy, rfl, hO9, hb9⟩; (obtain ⟨Ay, cy, rfl, hcy, hCy⟩ := Kd.R_reads hO9); have hqx := pw_cell_below hb9 (pw_cell_below hb8 HQ.out.1)) | (go_at_call 54; (with_reducible refine (impl_entryAt.calls Ay cy y a1_0 i _ hCy hcy HY.out.2).mono ?_); rintro e w10 ⟨rfl, hb10⟩; have HO10 := Aside0.mk (Kd.R_lower (Kd.R_below hO9 hb10) (show w.heap.size ≤ _ from by have := HB1.out.size; have := hb8.size; omega)); have HC10 := Aside0.mk (Kd.C_below hCy hb10); have HB10 := Aside0.mk (below_step (below_step (below_step HB1.out hb8) hb9) hb10); have HQ10 := Aside0.mk (show _ ∧ _ ∧ _ ∧ _ ∧ w.heap.size < w10.heap.size from ⟨pw_cell_below hb10 hqx, pw_cell_below hb10 (pw_cell_below hb9 (pw_cell_below hb8 HQ.out.2.1)), pw_cell_below hb10 (pw_cell_below hb9 (pw_cell_below hb8 HQ.out.2.2.1)), pw_cell_below hb10 (pw_cell_below hb9 (pw_cell_below hb8 HQ.out.2.2.2.1)), by have := HQ.out.2.2.2.2; have := hb8.size; have := hb9.size; have := hb10.size; omega⟩); clear hqx hCy hO9 hb8 hb9 hb10) | (go_at_call 73; refine (impl_PutEntry.indexFunc Ay cy y a1_0 w.heap.size w10 HC10.out hcy HQ10.out.1 HQ10.out.2.2.2.2).mono ?_; rintro e w11 ⟨rfl, hb11⟩; (try rw [HK.out]); have HO11 := Aside0.mk (Kd.R_below HO10.out hb11); have HB11 := Aside0.mk (below_step HB10.out hb11); have hy_0 := pw_cell_below hb11 HQ10.out.1; have hy_1 := pw_cell_below hb11 HQ10.out.2.1; have hy_2 := pw_cell_below hb11 HQ10.out.2.2.1; have hy_3 := pw_cell_below hb11 HQ10.out.2.2.2.1; clear HO10 HC10 HB10 HQ10 hb11) | (go_at_call 75; refine (impl_PutEntry.insert ⟨a1_0, a1_1, a1_2, a1_3⟩ y y.length w.heap.size w11.heap.size (.slice Ay y.length cy) _ w (Nat.le_refl _) hyl (below_step HB11.out (below_alloc (Below.refl _ _) _)) (by have := HB11.out.size; show _ ≤ (w11.heap.push _).size; rw [Array.size_push]; omega) (Kd.R_alloc HO11.out _) (by show (w11.heap.push _)[w11.heap.size]? = _; rw [Array.getElem?_push_size]; rfl) (fun he => by obtain ⟨_, ho_⟩ := Kd.R_own HO11.out; have := own_lt ho_ _ he.symm; omega)).mono ?_; rintro e w13 ⟨v13, rfl, hO13, hb13⟩; rw [HZ.out] at hO13; have HO13 := Aside0.mk hO13; have HB13 := Aside0.mk hb13; clear hO13 hb13 HO11 HB11 hy_0 hy_1 hy_2 hy_3; (obtain ⟨Az, cz, rfl, hcz, hCz⟩ := Kd.R_reads HO13.out)) | (go_at_call 46; (with_reducible refine (impl_TreeOk.calls k Az cz _ true w13 (EnvW.below HEE.out HB13.out) hCz hcz HT2.out).mono ?_); rintro e w14 ⟨rfl, hb14⟩))
          exact bodyPost_ret (v := .tuple #[.slice Az z.length cz, .bool true]) (by simp [results, Tryd.results35, go_sem]) rfl ⟨_, rfl, Kd.R_below HO13.out hb14, below_step HB13.out hb14⟩
        | false =>
          obtain ⟨rfl, rfl⟩ := Prod.mk.inj (Option.some.inj h)
          clear h
          go_enter Tryd.func35, Tryd.ntmps35
          go_wp2_with (first | (go_at_call 46; (with_reducible refine (impl_TreeOk.calls k A0 c0 l0 true _ HE1.out HR1.out.1 HR1.out.2 HT.out).mono ?_); rintro e w8 ⟨rfl, hb8⟩; clear HT) | (go_at_call 59; (with_reducible refine (impl_cloneTree.calls A0 c0 l0 y _ (Kd.C_below HR1.out.1 hb8) HR1.out.2 HY.out.1).mono ?_); rintro e w9 ⟨vy, rfl, hO9, hb9⟩; (obtain ⟨Ay, cy, rfl, hcy, hCy⟩ := Kd.R_reads hO9); have hqx := pw_cell_below hb9 (pw_cell_below hb8 HQ.out.1)) | (go_at_call 54; (with_reducible refine (impl_entryAt.calls Ay cy y a1_0 i _ hCy hcy HY.out.2).mono ?_); rintro e w10 ⟨rfl, hb10⟩; have HO10 := Aside0.mk (Kd.R_lower (Kd.R_below hO9 hb10) (show w.heap.size ≤ _ from by have := HB1.out.size; have := hb8.size; omega)); have HC10 := Aside0.mk (Kd.C_below hCy hb10); have HB10 := Aside0.mk (below_step (below_step (below_step HB1.out hb8) hb9) hb10); have HQ10 := Aside0.mk (show _ ∧ _ ∧ _ ∧ _ ∧ w.heap.size < w10.heap.size from ⟨pw_cell_below hb10 hqx, pw_cell_below hb10 (pw_cell_below hb9 (pw_cell_below hb8 HQ.out.2.1)), pw_cell_below hb10 (pw_cell_below hb9 (pw_cell_below hb8 HQ.out.2.2.1)), pw_cell_below hb10 (pw_cell_below hb9 (pw_cell_below hb8 HQ.out.2.2.2.1)), by have := HQ.out.2.2.2.2; have := hb8.size; have := hb9.size; have := hb10.size; omega⟩); clear hqx hCy hO9 hb8 hb9 hb10) | (go_at_call 73; refine (impl_PutEntry.indexFunc Ay cy y a1_0 w.heap.size w10 HC10.out hcy HQ10.out.1 HQ10.out.2.2.2.2).mono ?_; rintro e w11 ⟨rfl, hb11⟩; (try rw [HK.out]); have HO11 := Aside0.mk (Kd.R_below HO10.out hb11); have HB11 := Aside0.mk (below_step HB10.out hb11); have hy_0 := pw_cell_below hb11 HQ10.out.1; have hy_1 := pw_cell_below hb11 HQ10.out.2.1; have hy_2 := pw_cell_below hb11 HQ10.out.2.2.1; have hy_3 := pw_cell_below hb11 HQ10.out.2.2.2.1; clear HO10 HC10 HB10 HQ10 hb11) | (go_at_call 75; refine (impl_PutEntry.insert ⟨a1_0, a1_1, a1_2, a1_3⟩ y y.length w.heap.size w11.heap.size (.slice Ay y.length cy) _ w (Nat.le_refl _) hyl (below_step HB11.out (below_alloc (Below.refl _ _) _)) (by have := HB11.out.size; show _ ≤ (w11.heap.push _).size; rw [Array.size_push]; omega) (Kd.R_alloc HO11.out _) (by show (w11.heap.push _)[w11.heap.size]? = _; rw [Array.getElem?_push_size]; rfl) (fun he => by obtain ⟨_, ho_⟩ := Kd.R_own HO11.out; have := own_lt ho_ _ he.symm; omega)).mono ?_; rintro e w13 ⟨v13, rfl, hO13, hb13⟩; rw [HZ.out] at hO13; have HO13 := Aside0.mk hO13; have HB13 := Aside0.mk hb13; clear hO13 hb13 HO11 HB11 hy_0 hy_1 hy_2 hy_3; (obtain ⟨Az, cz, rfl, hcz, hCz⟩ := Kd.R_reads HO13.out)) | (go_at_call 46; (with_reducible refine (impl_TreeOk.calls k Az cz _ false w13 (EnvW.below HEE.out HB13.out) hCz hcz HT2.out).mono ?_); rintro e w14 ⟨rfl, hb14⟩) | (go_at_call 59; (with_reducible refine (impl_cloneTree.calls A0 c0 l0 y _ (Kd.C_below HRR.out.1 (below_step HB13.out hb14)) HRR.out.2 HY.out.1).mono ?_); rintro e w15 ⟨v15, rfl, hO15, hb15⟩))
          exact bodyPost_ret (v := .tuple #[v15, .bool false]) (by simp [results, Tryd.results35, go_sem]) rfl ⟨_, rfl, Kd.R_lower hO15 (below_step HB13.out hb14).size, below_step (below_step HB13.out hb14) hb15⟩
      · have hz : (if impl_PutEntry.first (impl_PutEntry.gtB a1_0) y 0 < 0 then some (y.take y.length ++ (⟨a1_0, a1_1, a1_2, a1_3⟩ : S47) :: y.drop y.length) else if impl_PutEntry.first (impl_PutEntry.gtB a1_0) y 0 ≤ (y.length : Int) then some (y.take (impl_PutEntry.first (impl_PutEntry.gtB a1_0) y 0).toNat ++ (⟨a1_0, a1_1, a1_2, a1_3⟩ : S47) :: y.drop (impl_PutEntry.first (impl_PutEntry.gtB a1_0) y 0).toNat) else none) = some z := hz
        rw [if_neg hk] at hz
        by_cases hle : impl_PutEntry.first (impl_PutEntry.gtB a1_0) y 0 ≤ (y.length : Int)
        case neg => rw [if_neg hle] at hz; cases hz
        rw [if_pos hle] at hz
        have HZ := Aside0.mk (Option.some.inj hz)
        clear hz
        obtain ⟨j, hK⟩ : ∃ j : Nat, impl_PutEntry.first (impl_PutEntry.gtB a1_0) y 0 = j := ⟨(impl_PutEntry.first (impl_PutEntry.gtB a1_0) y 0).toNat, by omega⟩
        rw [hK, Int.toNat_natCast] at HZ
        rw [hK] at hk hle
        have HK := Aside0.mk hK
        have hjl : j ≤ y.length := by omega
        have ck : decide ((j : Int) < 0) = false := decide_eq_false hk
        clear hK
        cases t2 with
        | true =>
          obtain ⟨rfl, rfl⟩ := Prod.mk.inj (Option.some.inj h)
          clear h
          go_enter Tryd.func35, Tryd.ntmps35
          go_wp2_with (first | (go_at_call 46; (with_reducible refine (impl_TreeOk.calls k A0 c0 l0 true _ HE1.out HR1.out.1 HR1.out.2 HT.out).mono ?_); rintro e w8 ⟨rfl, hb8⟩; clear HT) | (go_at_call 59; (with_reducible refine (impl_cloneTree.calls A0 c0 l0 y _ (Kd.C_below HR1.out.1 hb8) HR1.out.2 HY.out.1).mono ?_); rintro e w9 ⟨vy, rfl, hO9, hb9⟩; (obtain ⟨Ay, cy, rfl, hcy, hCy⟩ := Kd.R_reads hO9); have hqx := pw_cell_below hb9 (pw_cell_below hb8 HQ.out.1)) | (go_at_call 54; (with_reducible refine (impl_entryAt.calls Ay cy y a1_0 i _ hCy hcy HY.out.2).mono ?_); rintro e w10 ⟨rfl, hb10⟩; have HO10 := Aside0.mk (Kd.R_lower (Kd.R_below hO9 hb10) (show w.heap.size ≤ _ from by have := HB1.out.size; have := hb8.size; omega)); have HC10 := Aside0.mk (Kd.C_below hCy hb10); have HB10 := Aside0.mk (below_step (below_step (below_step HB1.out hb8) hb9) hb10); have HQ10 := Aside0.mk (show _ ∧ _ ∧ _ ∧ _ ∧ w.heap.size < w10.heap.size from ⟨pw_cell_below hb10 hqx, pw_cell_below hb10 (pw_cell_below hb9 (pw_cell_below hb8 HQ.out.2.1)), pw_cell_below hb10 (pw_cell_below hb9 (pw_cell_below hb8 HQ.out.2.2.1)), pw_cell_below hb10 (pw_cell_below hb9 (pw_cell_below hb8 HQ.out.2.2.2.1)), by have := HQ.out.2.2.2.2; have := hb8.size; have := hb9.size; have := hb10.size; omega⟩); clear hqx hCy hO9 hb8 hb9 hb10) | (go_at_call 73; refine (impl_PutEntry.indexFunc Ay cy y a1_0 w.heap.size w10 HC10.out hcy HQ10.out.1 HQ10.out.2.2.2.2).mono ?_; rintro e w11 ⟨rfl, hb11⟩; (try rw [HK.out]); have HO11 := Aside0.mk (Kd.R_below HO10.out hb11); have HB11 := Aside0.mk (below_step HB10.out hb11); have hy_0 := pw_cell_below hb11 HQ10.out.1; have hy_1 := pw_cell_below hb11 HQ10.out.2.1; have hy_2 := pw_cell_below hb11 HQ10.out.2.2.1; have hy_3 := pw_cell_below hb11 HQ10.out.2.2.2.1; clear HO10 HC10 HB10 HQ10 hb11) | (go_at_call 75; refine (impl_PutEntry.insert ⟨a1_0, a1_1, a1_2, a1_3⟩ y j w.heap.size w11.heap.size (.slice Ay y.length cy) _ w hjl hyl (below_step HB11.out (below_alloc (Below.refl _ _) _)) (by have := HB11.out.size; show _ ≤ (w11.heap.push _).size; rw [Array.size_push]; omega) (Kd.R_alloc HO11.out _) (by show (w11.heap.push _)[w11.heap.size]? = _; rw [Array.getElem?_push_size]; rfl) (fun he => by obtain ⟨_, ho_⟩ := Kd.R_own HO11.out; have := own_lt ho_ _ he.symm; omega)).mono ?_; rintro e w13 ⟨v13, rfl, hO13, hb13⟩; rw [HZ.out] at hO13; have HO13 := Aside0.mk hO13; have HB13 := Aside0.mk hb13; clear hO13 hb13 HO11 HB11 hy_0 hy_1 hy_2 hy_3; (obtain ⟨Az, cz, rfl, hcz, hCz⟩ := Kd.R_reads HO13.out)) | (go_at_call 46; (with_reducible refine (impl_TreeOk.calls k Az cz _ true w13 (EnvW.below HEE.out HB13.out) hCz hcz HT2.out).mono ?_); rintro e w14 ⟨rfl, hb14⟩))
          exact bodyPost_ret (v := .tuple #[.slice Az z.length cz, .bool true]) (by simp [results, Tryd.results35, go_sem]) rfl ⟨_, rfl, Kd.R_below HO13.out hb14, below_step HB13.out hb14⟩
        | false =>
          obtain ⟨rfl, rfl⟩ := Prod.mk.inj (Option.some.inj h)
          clear h
          go_enter Tryd.func35, Tryd.ntmps35
          go_wp2_with (first | (go_at_call 46; (with_reducible refine (impl_TreeOk.calls k A0 c0 l0 true _ HE1.out HR1.out.1 HR1.out.2 HT.out).mono ?_); rintro e w8 ⟨rfl, hb8⟩; clear HT) | (go_at_call 59; (with_reducible refine (impl_cloneTree.calls A0 c0 l0 y _ (Kd.C_below HR1.out.1 hb8) HR1.out.2 HY.out.1).mono ?_); rintro e w9 ⟨vy, rfl, hO9, hb9⟩; (obtain ⟨Ay, cy, rfl, hcy, hCy⟩ := Kd.R_reads hO9); have hqx := pw_cell_below hb9 (pw_cell_below hb8 HQ.out.1)) | (go_at_call 54; (with_reducible refine (impl_entryAt.calls Ay cy y a1_0 i _ hCy hcy HY.out.2).mono ?_); rintro e w10 ⟨rfl, hb10⟩; have HO10 := Aside0.mk (Kd.R_lower (Kd.R_below hO9 hb10) (show w.heap.size ≤ _ from by have := HB1.out.size; have := hb8.size; omega)); have HC10 := Aside0.mk (Kd.C_below hCy hb10); have HB10 := Aside0.mk (below_step (below_step (below_step HB1.out hb8) hb9) hb10); have HQ10 := Aside0.mk (show _ ∧ _ ∧ _ ∧ _ ∧ w.heap.size < w10.heap.size from ⟨pw_cell_below hb10 hqx, pw_cell_below hb10 (pw_cell_below hb9 (pw_cell_below hb8 HQ.out.2.1)), pw_cell_below hb10 (pw_cell_below hb9 (pw_cell_below hb8 HQ.out.2.2.1)), pw_cell_below hb10 (pw_cell_below hb9 (pw_cell_below hb8 HQ.out.2.2.2.1)), by have := HQ.out.2.2.2.2; have := hb8.size; have := hb9.size; have := hb10.size; omega⟩); clear hqx hCy hO9 hb8 hb9 hb10) | (go_at_call 73; refine (impl_PutEntry.indexFunc Ay cy y a1_0 w.heap.size w10 HC10.out hcy HQ10.out.1 HQ10.out.2.2.2.2).mono ?_; rintro e w11 ⟨rfl, hb11⟩; (try rw [HK.out]); have HO11 := Aside0.mk (Kd.R_below HO10.out hb11); have HB11 := Aside0.mk (below_step HB10.out hb11); have hy_0 := pw_cell_below hb11 HQ10.out.1; have hy_1 := pw_cell_below hb11 HQ10.out.2.1; have hy_2 := pw_cell_below hb11 HQ10.out.2.2.1; have hy_3 := pw_cell_below hb11 HQ10.out.2.2.2.1; clear HO10 HC10 HB10 HQ10 hb11) | (go_at_call 75; refine (impl_PutEntry.insert ⟨a1_0, a1_1, a1_2, a1_3⟩ y j w.heap.size w11.heap.size (.slice Ay y.length cy) _ w hjl hyl (below_step HB11.out (below_alloc (Below.refl _ _) _)) (by have := HB11.out.size; show _ ≤ (w11.heap.push _).size; rw [Array.size_push]; omega) (Kd.R_alloc HO11.out _) (by show (w11.heap.push _)[w11.heap.size]? = _; rw [Array.getElem?_push_size]; rfl) (fun he => by obtain ⟨_, ho_⟩ := Kd.R_own HO11.out; have := own_lt ho_ _ he.symm; omega)).mono ?_; rintro e w13 ⟨v13, rfl, hO13, hb13⟩; rw [HZ.out] at hO13; have HO13 := Aside0.mk hO13; have HB13 := Aside0.mk hb13; clear hO13 hb13 HO11 HB11 hy_0 hy_1 hy_2 hy_3; (obtain ⟨Az, cz, rfl, hcz, hCz⟩ := Kd.R_reads HO13.out)) | (go_at_call 46; (with_reducible refine (impl_TreeOk.calls k Az cz _ false w13 (EnvW.below HEE.out HB13.out) hCz hcz HT2.out).mono ?_); rintro e w14 ⟨rfl, hb14⟩) | (go_at_call 59; (with_reducible refine (impl_cloneTree.calls A0 c0 l0 y _ (Kd.C_below HRR.out.1 (below_step HB13.out hb14)) HRR.out.2 HY.out.1).mono ?_); rintro e w15 ⟨v15, rfl, hO15, hb15⟩))
          exact bodyPost_ret (v := .tuple #[v15, .bool false]) (by simp [results, Tryd.results35, go_sem]) rfl ⟨_, rfl, Kd.R_lower hO15 (below_step HB13.out hb14).size, below_step (below_step HB13.out hb14) hb15⟩
    · rw [if_neg hneg] at hz
      by_cases hlt : i < (y.length : Int)
      case neg => rw [if_neg hlt] at hz; cases hz
      rw [if_pos hlt] at hz
      obtain rfl := Option.some.inj hz
      clear hz
      obtain ⟨j, rfl⟩ : ∃ j : Nat, i = j := ⟨i.toNat, by omega⟩
      rw [Int.toNat_natCast] at *
      have hjl : j < y.length := by omega
      have cn : decide ((j : Int) < 0) = false := decide_eq_false hneg
      have c1 : decide ((j : Int) < (y.length : Int)) = true := decide_eq_true hlt
      have c2 : decide (j < y.length) = true := decide_eq_true hjl
      have hsl : (y.set j (⟨a1_0, a1_1, a1_2, a1_3⟩ : S47)).length = y.length := List.length_set
      have HT2c := Aside0.mk (show ∀ (A : Option Addr) (c : Nat) (W : World), EnvW W → Kd.C k47 W A y.length (y.set j (⟨a1_0, a1_1, a1_2, a1_3⟩ : S47)) → y.length ≤ c → Calls Tryd.prog 46 #[.slice A y.length c] W fun e w' => e = .returned (.bool t2) ∧ Below W.heap.size W w' from fun A c W hE hC hc => by
        have h1 := impl_TreeOk.calls k A c (y.set j (⟨a1_0, a1_1, a1_2, a1_3⟩ : S47)) t2 W hE (by rw [hsl]; exact hC) (by rw [hsl]; exact hc) HT2.out
        rwa [hsl] at h1)
      clear HT2
      cases t2 with
      | true =>
        obtain ⟨rfl, rfl⟩ := Prod.mk.inj (Option.some.inj h)
        clear h
        go_enter Tryd.func35, Tryd.ntmps35
        go_wp2_with (first | (go_at_call 46; (with_reducible refine (impl_TreeOk.calls k A0 c0 l0 true _ HE1.out HR1.out.1 HR1.out.2 HT.out).mono ?_); rintro e w8 ⟨rfl, hb8⟩; clear HT) | (go_at_call 59; (with_reducible refine (impl_cloneTree.calls A0 c0 l0 y _ (Kd.C_below HR1.out.1 hb8) HR1.out.2 HY.out.1).mono ?_); rintro e w9 ⟨vy, rfl, hO9, hb9⟩; (obtain ⟨Ay, cy, rfl, hcy, hCy⟩ := Kd.R_reads hO9); have hqx := pw_cell_below hb9 (pw_cell_below hb8 HQ.out.1)) | (go_at_call 54; (with_reducible refine (impl_entryAt.calls Ay cy y a1_0 (j : Int) _ hCy hcy HY.out.2).mono ?_); rintro e w10 ⟨rfl, hb10⟩; (obtain ⟨g, cap_, hv, hbg, hgl, hcells⟩ := Kd.R_form hO9 (by omega)); (injection hv with hA _ hc2); subst hA; subst hc2; have HO10 := Aside0.mk (Kd.R_lower (Kd.R_below hO9 hb10) (show w.heap.size ≤ _ from by have := HB1.out.size; have := hb8.size; omega)); have HB10 := Aside0.mk (below_step (below_step (below_step HB1.out hb8) hb9) hb10); have HG := Aside0.mk (show w.heap.size ≤ g from by have := HB1.out.size; have := hb8.size; omega); have hy_0 := pw_cell_below hb10 hqx; have hy_1 := pw_cell_below hb10 (pw_cell_below hb9 (pw_cell_below hb8 HQ.out.2.1)); have hy_2 := pw_cell_below hb10 (pw_cell_below hb9 (pw_cell_below hb8 HQ.out.2.2.1)); have hy_3 := pw_cell_below hb10 (pw_cell_below hb9 (pw_cell_below hb8 HQ.out.2.2.2.1)); clear hqx hCy hO9 hb8 hb9 hb10 hcells hgl hbg; (obtain ⟨ce, hcl, hM, hcc, hfr⟩ := Kd.R_elem HO10.out z47 (j : Int) (by omega) (by omega)); (obtain rfl := k47_openM hM); have HP := Kd.R_seg HO10.out (j : Int) (by omega) (by omega) (seg := [.string a1_0, .int .i64 a1_1, .string a1_2, .bool a1_3]) (j := 0) hcl hcc (show 4 ≤ 4 from by decide) (x' := (⟨a1_0, a1_1, a1_2, a1_3⟩ : S47)) (k47_mkM _ _ _ (⟨a1_0, a1_1, a1_2, a1_3⟩ : S47)) (fun _ hk => hk); have hx_0 := hcc 0 _ rfl; have hx_1 := hcc 1 _ rfl; have hx_2 := hcc 2 _ rfl; have hx_3 := hcc 3 _ rfl; have hf_0 := hfr 0; have hf_1 := hfr 1; have hf_2 := hfr 2; have hf_3 := hfr 3; simp only [show (k47).sz = 4 from rfl, Nat.mul_one, Nat.add_zero, Int.toNat_natCast] at hx_0 hx_1 hx_2 hx_3 hf_0 hf_1 hf_2 hf_3; clear hcl hM hcc hfr) | ((with_reducible refine gate_store (t := 47) (p := 23) rfl ?_); refine store_event (t := 47) (p := 23) (v := ?vo_w13) (w1 := ((((w10.setCell ⟨g, j * 4, none⟩ (.string a1_0)).setCell ⟨g, j * 4 + 1, none⟩ (.int .i64 a1_1)).setCell ⟨g, j * 4 + 2, none⟩ (.string a1_2)).setCell ⟨g, j * 4 + 3, none⟩ (.bool a1_3))) ?hg ?ho ?hn ?hr ?_; (case ho => rfl); (case hg => rfl); (case hn => rfl); (case hr => first | (go_simp; done) | (go_simp; rfl)); intro w13 hw; have HO13 := Aside0.mk (show Kd.R k47 47 w13 w.heap.size (fun _ => True) (.slice (some ⟨g, 0, none⟩) y.length cy) (y.set j ⟨a1_0, a1_1, a1_2, a1_3⟩) from (by rw [hw]; exact HP.1)); have HB13 := Aside0.mk (by rw [hw]; exact below_set (below_set (below_set (below_set HB10.out HG.out) HG.out) HG.out) HG.out : Below w.heap.size w w13); clear HP HO10 HB10 hw hy_0 hy_1 hy_2 hy_3 hx_0 hx_1 hx_2 hx_3 hf_0 hf_1 hf_2 hf_3) | (go_at_call 46; (obtain ⟨Az, cz, hvz, hcz, hCz⟩ := Kd.R_reads HO13.out); (rw [hsl] at hvz hcz hCz); (injection hvz with hA_ _ hc_); subst hA_; subst hc_; refine (HT2c.out (some ⟨g, 0, none⟩) cy w13 (EnvW.below HEE.out HB13.out) hCz hcz).mono ?_; rintro e w14 ⟨rfl, hb14⟩))
        exact bodyPost_ret (v := .tuple #[.slice (some ⟨g, 0, none⟩) y.length cy, .bool true]) (by simp [results, Tryd.results35, go_sem]) rfl ⟨_, rfl, Kd.R_below HO13.out hb14, below_step HB13.out hb14⟩
      | false =>
        obtain ⟨rfl, rfl⟩ := Prod.mk.inj (Option.some.inj h)
        clear h
        go_enter Tryd.func35, Tryd.ntmps35
        go_wp2_with (first | (go_at_call 46; (with_reducible refine (impl_TreeOk.calls k A0 c0 l0 true _ HE1.out HR1.out.1 HR1.out.2 HT.out).mono ?_); rintro e w8 ⟨rfl, hb8⟩; clear HT) | (go_at_call 59; (with_reducible refine (impl_cloneTree.calls A0 c0 l0 y _ (Kd.C_below HR1.out.1 hb8) HR1.out.2 HY.out.1).mono ?_); rintro e w9 ⟨vy, rfl, hO9, hb9⟩; (obtain ⟨Ay, cy, rfl, hcy, hCy⟩ := Kd.R_reads hO9); have hqx := pw_cell_below hb9 (pw_cell_below hb8 HQ.out.1)) | (go_at_call 54; (with_reducible refine (impl_entryAt.calls Ay cy y a1_0 (j : Int) _ hCy hcy HY.out.2).mono ?_); rintro e w10 ⟨rfl, hb10⟩; (obtain ⟨g, cap_, hv, hbg, hgl, hcells⟩ := Kd.R_form hO9 (by omega)); (injection hv with hA _ hc2); subst hA; subst hc2; have HO10 := Aside0.mk (Kd.R_lower (Kd.R_below hO9 hb10) (show w.heap.size ≤ _ from by have := HB1.out.size; have := hb8.size; omega)); have HB10 := Aside0.mk (below_step (below_step (below_step HB1.out hb8) hb9) hb10); have HG := Aside0.mk (show w.heap.size ≤ g from by have := HB1.out.size; have := hb8.size; omega); have hy_0 := pw_cell_below hb10 hqx; have hy_1 := pw_cell_below hb10 (pw_cell_below hb9 (pw_cell_below hb8 HQ.out.2.1)); have hy_2 := pw_cell_below hb10 (pw_cell_below hb9 (pw_cell_below hb8 HQ.out.2.2.1)); have hy_3 := pw_cell_below hb10 (pw_cell_below hb9 (pw_cell_below hb8 HQ.out.2.2.2.1)); clear hqx hCy hO9 hb8 hb9 hb10 hcells hgl hbg; (obtain ⟨ce, hcl, hM, hcc, hfr⟩ := Kd.R_elem HO10.out z47 (j : Int) (by omega) (by omega)); (obtain rfl := k47_openM hM); have HP := Kd.R_seg HO10.out (j : Int) (by omega) (by omega) (seg := [.string a1_0, .int .i64 a1_1, .string a1_2, .bool a1_3]) (j := 0) hcl hcc (show 4 ≤ 4 from by decide) (x' := (⟨a1_0, a1_1, a1_2, a1_3⟩ : S47)) (k47_mkM _ _ _ (⟨a1_0, a1_1, a1_2, a1_3⟩ : S47)) (fun _ hk => hk); have hx_0 := hcc 0 _ rfl; have hx_1 := hcc 1 _ rfl; have hx_2 := hcc 2 _ rfl; have hx_3 := hcc 3 _ rfl; have hf_0 := hfr 0; have hf_1 := hfr 1; have hf_2 := hfr 2; have hf_3 := hfr 3; simp only [show (k47).sz = 4 from rfl, Nat.mul_one, Nat.add_zero, Int.toNat_natCast] at hx_0 hx_1 hx_2 hx_3 hf_0 hf_1 hf_2 hf_3; clear hcl hM hcc hfr) | ((with_reducible refine gate_store (t := 47) (p := 23) rfl ?_); refine store_event (t := 47) (p := 23) (v := ?vo_w13) (w1 := ((((w10.setCell ⟨g, j * 4, none⟩ (.string a1_0)).setCell ⟨g, j * 4 + 1, none⟩ (.int .i64 a1_1)).setCell ⟨g, j * 4 + 2, none⟩ (.string a1_2)).setCell ⟨g, j * 4 + 3, none⟩ (.bool a1_3))) ?hg ?ho ?hn ?hr ?_; (case ho => rfl); (case hg => rfl); (case hn => rfl); (case hr => first | (go_simp; done) | (go_simp; rfl)); intro w13 hw; have HO13 := Aside0.mk (show Kd.R k47 47 w13 w.heap.size (fun _ => True) (.slice (some ⟨g, 0, none⟩) y.length cy) (y.set j ⟨a1_0, a1_1, a1_2, a1_3⟩) from (by rw [hw]; exact HP.1)); have HB13 := Aside0.mk (by rw [hw]; exact below_set (below_set (below_set (below_set HB10.out HG.out) HG.out) HG.out) HG.out : Below w.heap.size w w13); clear HP HO10 HB10 hw hy_0 hy_1 hy_2 hy_3 hx_0 hx_1 hx_2 hx_3 hf_0 hf_1 hf_2 hf_3) | (go_at_call 46; (obtain ⟨Az, cz, hvz, hcz, hCz⟩ := Kd.R_reads HO13.out); (rw [hsl] at hvz hcz hCz); (injection hvz with hA_ _ hc_); subst hA_; subst hc_; refine (HT2c.out (some ⟨g, 0, none⟩) cy w13 (EnvW.below HEE.out HB13.out) hCz hcz).mono ?_; rintro e w14 ⟨rfl, hb14⟩) | (go_at_call 59; (with_reducible refine (impl_cloneTree.calls A0 c0 l0 y _ (Kd.C_below HRR.out.1 (below_step HB13.out hb14)) HRR.out.2 HY.out.1).mono ?_); rintro e w15 ⟨v15, rfl, hO15, hb15⟩))
        exact bodyPost_ret (v := .tuple #[v15, .bool false]) (by simp [results, Tryd.results35, go_sem]) rfl ⟨_, rfl, Kd.R_lower hO15 (below_step HB13.out hb14).size, below_step (below_step HB13.out hb14) hb15⟩
end Go.Proofs.YtgghefjkkidaoaaDoor.P
end

section
namespace Go.Proofs.YtgghefjkkidaoaaDoor.P
open Go.RowKit Go.Proofs.YtgghefjkkidaoaaDoorW.PrintWords Go.Proofs.YtgghefjkkidaoaaDoorW.PrintLast Go.Proofs.YtgghefjkkidaoaaDoorW.PrintMore Go.Proofs.YtgghefjkkidaoaaDoorM
attribute [local go_sem] max2_int min2_int max_two min_two max_three min_three max_four min_four   -- for this text's walks alone
set_option linter.unusedVariables false
set_option linter.unusedSimpArgs false
mutual
def laws_FnExactPutEntry.j0 : Nat → List (S44) → List (S47) → Bool → List (S47) → List (S47) → Bool → Bool → ByteArray → Int → ByteArray → Bool → Option (Bool)
  | 0, _, _, _, _, _, _, _, _, _, _, _ => none
  | k + 1, x0, x6, x7, x8, x9, x10, x51, x629000, x629001, x629002, x629003 => if x51 = true then (some false) else ((laws_toEntryS.f k x0).bind fun t654 => ((laws_eqEntryS.f k x8 t654).bind fun t657 => (if t657 = true then ((laws_markEntryS.f k x8 1).bind fun bt658 => (if bt658.1 < 0 then (laws_FnExactPutEntry.j1 k x0 x6 x7 x9 true x629000 x629001 x629002 x629003) else ((laws_eqEntryS.f k x9 x6).bind fun t660 => (if t660 = true then (laws_FnExactPutEntry.j1 k x0 x6 x7 x9 (x10 != x7) x629000 x629001 x629002 x629003) else (laws_FnExactPutEntry.j1 k x0 x6 x7 x9 true x629000 x629001 x629002 x629003))))) else (some false))))
def laws_FnExactPutEntry.j1 : Nat → List (S44) → List (S47) → Bool → List (S47) → Bool → ByteArray → Int → ByteArray → Bool → Option (Bool)
  | 0, _, _, _, _, _, _, _, _, _ => none
  | k + 1, x0, x6, x7, x9, x72, x629000, x629001, x629002, x629003 => if x72 = true then (some false) else ((laws_markEntryS.f k x9 1).bind fun bt661 => ((laws_heldEntryS.f k bt661.2 1).bind fun t663 => (if t663 < 0 then (some false) else (if t663 = bt661.1 then ((laws_toEntryS.f k x0).bind fun t664 => ((laws_toEntry.f x629000 x629001 x629002 x629003).bind fun bt667 => ((impl_PutEntry.f k t664 bt667.1 bt667.2.1 bt667.2.2.1 bt667.2.2.2).bind fun bt671 => ((laws_eqEntryS.f k bt671.1 x6).bind fun t675 => (if t675 = true then (laws_FnExactPutEntry.j2 k bt661.2 bt661.1 (bt671.2 != x7)) else (laws_FnExactPutEntry.j2 k bt661.2 bt661.1 true)))))) else (some false)))))
def laws_FnExactPutEntry.j2 : Nat → List (S47) → Int → Bool → Option (Bool)
  | 0, _, _, _ => none
  | k + 1, x9, x12, x100 => if x100 = true then (some false) else ((laws_heldEntryS.f k x9 1).bind fun t676 => (if t676 < 0 then (some false) else (if t676 = x12 then (some true) else (some false))))
end
def laws_FnExactPutEntry.f (k : Nat) (l0 : List (S44)) (a1_0 : ByteArray) (a1_1 : Int) (a1_2 : ByteArray) (a1_3 : Bool) : Option (Bool) := (laws_szEntryS.f k l0 1048576).bind fun t629 => (if t629 < 0 then (some true) else ((laws_szEntry.f a1_0 a1_1 a1_2 a1_3 t629).bind fun t630 => (if t630 < 0 then (some true) else ((laws_toEntryS.f k l0).bind fun t631 => ((laws_toEntry.f a1_0 a1_1 a1_2 a1_3).bind fun bt634 => ((spec_PutEntry.f k t631 bt634.1 bt634.2.1 bt634.2.2.1 bt634.2.2.2).bind fun bt638 => ((laws_toEntryS.f k l0).bind fun t642 => ((laws_toEntry.f a1_0 a1_1 a1_2 a1_3).bind fun bt645 => ((impl_PutEntry.f k t642 bt645.1 bt645.2.1 bt645.2.2.1 bt645.2.2.2).bind fun bt649 => ((laws_eqEntryS.f k bt649.1 bt638.1).bind fun t653 => (if t653 = true then (laws_FnExactPutEntry.j0 k l0 bt638.1 bt638.2 t642 bt649.1 bt649.2 (bt649.2 != bt638.2) a1_0 a1_1 a1_2 a1_3) else (laws_FnExactPutEntry.j0 k l0 bt638.1 bt638.2 t642 bt649.1 bt649.2 true a1_0 a1_1 a1_2 a1_3))))))))))))
def laws_FnExactPutEntry.T8 : Bool × List (List Nat × List Nat) := (true, [([], []), ([0], [0]), ([], []), ([2, 1], [2]), ([1, 3, 3], [1, 3]), ([4], [4]), ([5], [5]), ([5], [5]), ([6, 4, 0, 1, 2, 3, 4, 5, 6], [6]), ([7, 8, 0, 1, 2, 3, 4, 5, 6, 7, 8], [7])])
def laws_FnExactPutEntry.B8 : List Nat := [0, 1, 0, 7, 15, 31, 63, 63, 127, 511]
theorem laws_FnExactPutEntry.tab8 : rtab .any (opsOf Tryd.f9 8) = laws_FnExactPutEntry.T8 := by kernel_rfl
theorem laws_FnExactPutEntry.bits8 : waitsOk laws_FnExactPutEntry.T8.2 laws_FnExactPutEntry.B8 = true := by kernel_rfl
def laws_FnExactPutEntry.T27 : Bool × List (List Nat × List Nat) := (true, [([], []), ([0], [0]), ([], []), ([2, 1], [2]), ([1, 3, 3], [1, 3]), ([4], [4]), ([5], [5]), ([5], [5]), ([6, 4, 0, 1, 2, 3, 4, 5, 6], [6]), ([7, 8, 0, 1, 2, 3, 4, 5, 6, 7, 8], [7])])
def laws_FnExactPutEntry.B27 : List Nat := [0, 1, 0, 7, 15, 31, 63, 63, 127, 511]
theorem laws_FnExactPutEntry.tab27 : rtab .any (opsOf Tryd.f9 27) = laws_FnExactPutEntry.T27 := by kernel_rfl
theorem laws_FnExactPutEntry.bits27 : waitsOk laws_FnExactPutEntry.T27.2 laws_FnExactPutEntry.B27 = true := by kernel_rfl
set_option maxHeartbeats 8000000 in
set_option maxRecDepth 100000 in
theorem laws_FnExactPutEntry.calls (k : Nat) (A0 : Option Addr) (c0 : Nat) (l0 : List (S44)) (a1_0 : ByteArray) (a1_1 : Int) (a1_2 : ByteArray) (a1_3 : Bool) (r : Bool) (w : World) (hE : EnvW w) (hr0 : Kd.C k44 w A0 l0.length l0) (hc0 : l0.length ≤ c0) (h : laws_FnExactPutEntry.f k l0 a1_0 a1_1 a1_2 a1_3 = some r) :
    Calls Tryd.prog 9 #[.slice A0 l0.length c0, .agg #[.string a1_0, .int .i64 a1_1, .string a1_2, .bool a1_3]] w fun e w' => e = .returned (.bool r) ∧ Below w.heap.size w w' := by
  have hu44 := Tryd.underlying44
  have HE := Aside0.mk hE
  clear hE
  have HR0 := Aside0.mk hr0
  have HC0 := Aside0.mk hc0
  clear hr0 hc0
  have HB := Aside0.mk (Below.refl w.heap.size w)
  have H : ((laws_szEntryS.f k l0 1048576).bind fun t629 => (if t629 < 0 then (some true) else ((laws_szEntry.f a1_0 a1_1 a1_2 a1_3 t629).bind fun t630 => (if t630 < 0 then (some true) else ((laws_toEntryS.f k l0).bind fun t631 => ((laws_toEntry.f a1_0 a1_1 a1_2 a1_3).bind fun bt634 => ((spec_PutEntry.f k t631 bt634.1 bt634.2.1 bt634.2.2.1 bt634.2.2.2).bind fun bt638 => ((laws_toEntryS.f k l0).bind fun t642 => ((laws_toEntry.f a1_0 a1_1 a1_2 a1_3).bind fun bt645 => ((impl_PutEntry.f k t642 bt645.1 bt645.2.1 bt645.2.2.1 bt645.2.2.2).bind fun bt649 => ((laws_eqEntryS.f k bt649.1 bt638.1).bind fun t653 => (if t653 = true then (laws_FnExactPutEntry.j0 k l0 bt638.1 bt638.2 t642 bt649.1 bt649.2 (bt649.2 != bt638.2) a1_0 a1_1 a1_2 a1_3) else (laws_FnExactPutEntry.j0 k l0 bt638.1 bt638.2 t642 bt649.1 bt649.2 true a1_0 a1_1 a1_2 a1_3))))))))))))) = some r := h
  clear h
  replace H := Option.bind_eq_some_iff.mp H
  obtain ⟨t629, A30, H⟩ := H
  replace H : (if t629 < 0 then (some true) else ((laws_szEntry.f a1_0 a1_1 a1_2 a1_3 t629).bind fun t630 => (if t630 < 0 then (some true) else ((laws_toEntryS.f k l0).bind fun t631 => ((laws_toEntry.f a1_0 a1_1 a1_2 a1_3).bind fun bt634 => ((spec_PutEntry.f k t631 bt634.1 bt634.2.1 bt634.2.2.1 bt634.2.2.2).bind fun bt638 => ((laws_toEntryS.f k l0).bind fun t642 => ((laws_toEntry.f a1_0 a1_1 a1_2 a1_3).bind fun bt645 => ((impl_PutEntry.f k t642 bt645.1 bt645.2.1 bt645.2.2.1 bt645.2.2.2).bind fun bt649 => ((laws_eqEntryS.f k bt649.1 bt638.1).bind fun t653 => (if t653 = true then (laws_FnExactPutEntry.j0 k l0 bt638.1 bt638.2 t642 bt649.1 bt649.2 (bt649.2 != bt638.2) a1_0 a1_1 a1_2 a1_3) else (laws_FnExactPutEntry.j0 k l0 bt638.1 bt638.2 t642 bt649.1 bt649.2 true a1_0 a1_1 a1_2 a1_3)))))))))))) = some r := H
  have A3 := Aside0.mk A30
  clear A30
  by_cases c4 : t629 < 0
  · rw [if_pos c4] at H
    have c4b0 : decide (t629 < 0) = true := decide_eq_true c4
    clear c4
    obtain rfl := Option.some.inj H
    go_enter Tryd.func9, Tryd.ntmps9
    go_wp2_with (first | ((with_reducible refine gate_dst (N := 3) rfl ?_); refine box_event ?hg (N := 3) ?hd (cs := #[.string a1_0, .int .i64 a1_1, .string a1_2, .bool a1_3]) (t := 44) ?hr ?_; (case hd => rfl); (case hg => rfl); (case hr => first | (go_simp; done) | (go_simp; rfl)); intro gb628 hg w5 hbox hb; have n0_ := Aside0.mk (below_step (by repeat (first | (with_reducible first | exact HB.out | apply below_alloc | apply pw_below_drewN | apply below_drew1) | exact HB.out)) hb); have n1_ := Aside0.mk (hbox); have n2_ := Aside0.mk ((by rw [hg]; exact (below_size (by repeat (first | (with_reducible first | exact HB.out | apply below_alloc | apply pw_below_drewN | apply below_drew1) | exact HB.out))) : w.heap.size ≤ gb628)); have n3_ := Aside0.mk ((by rw [hg]; exact (below_size (by repeat (first | (with_reducible first | exact HB.out | apply below_alloc | apply pw_below_drewN | apply below_drew1) | exact HB.out))) : w.heap.size ≤ gb628)); clear HB; have HB := n0_; have BK628 := n1_; have GW628 := n2_; have GE628 := n3_; clear n0_ n1_ n2_ n3_; clear hb hbox hg) | ((with_reducible refine gate_callee (f := 11) rfl ?_); refine goesL_ (some 18) rfl rfl Tryd.func11 (by kernel_rfl) rfl #[.slice A0 l0.length c0, .int .i64 1048576] rfl (by (try simp only [List.map_toArray, List.map_cons, List.map_nil]); first | done | rfl | (simp only [List.length_drop, List.length_take]; rfl)) ?_; (with_reducible refine (laws_szEntryS.calls k _ _ l0 1048576 t629 _ ?side1 ?side2 A3.out).mono ?_); (case side1 => repeat (first | exact (Kd.C_below HR0.out HB.out) | (with_reducible refine Kd.C_alloc ?_ _) | (with_reducible refine Kd.C_drewN ?_ _) | (with_reducible refine Kd.C_drew ?_))); (case side2 => exact HC0.out); rintro e w6 ⟨rfl, hb⟩; refine ⟨_, rfl, ?_⟩; have n0_ := Aside0.mk (blk_below (g := gb628) (o := .cells #[.string a1_0, .int .i64 a1_1, .string a1_2, .bool a1_3] 44 (0, 0)) (by (with_reducible repeat (first | refine blk_drewN ?_ _ | refine blk_drew ?_ | refine blk_alloc ?_ _)); exact BK628.out) hb); have n1_ := Aside0.mk (below_step (by repeat (first | (with_reducible first | exact HB.out | apply below_alloc | apply pw_below_drewN | apply below_drew1 | refine below_set ?_ GE628.out) | exact HB.out)) hb); clear BK628; clear HB; have BK628 := n0_; have HB := n1_; clear n0_ n1_; (try clear hb); (try clear hb2); (try clear hk); (try clear hi)))
    go_ret
    exact ⟨by first | rfl | (simp [errW_none, errW_some] <;> rfl) | (simp [*, errW_none, errW_some] <;> rfl), by repeat (first | (with_reducible first | exact HB.out | apply below_alloc | apply pw_below_drewN | apply below_drew1 | refine below_set ?_ GE628.out) | exact HB.out)⟩
  · rw [if_neg c4] at H
    have c4b0 : decide (t629 < 0) = false := decide_eq_false c4
    clear c4
    replace H := Option.bind_eq_some_iff.mp H
    obtain ⟨t630, A70, H⟩ := H
    replace H : (if t630 < 0 then (some true) else ((laws_toEntryS.f k l0).bind fun t631 => ((laws_toEntry.f a1_0 a1_1 a1_2 a1_3).bind fun bt634 => ((spec_PutEntry.f k t631 bt634.1 bt634.2.1 bt634.2.2.1 bt634.2.2.2).bind fun bt638 => ((laws_toEntryS.f k l0).bind fun t642 => ((laws_toEntry.f a1_0 a1_1 a1_2 a1_3).bind fun bt645 => ((impl_PutEntry.f k t642 bt645.1 bt645.2.1 bt645.2.2.1 bt645.2.2.2).bind fun bt649 => ((laws_eqEntryS.f k bt649.1 bt638.1).bind fun t653 => (if t653 = true then (laws_FnExactPutEntry.j0 k l0 bt638.1 bt638.2 t642 bt649.1 bt649.2 (bt649.2 != bt638.2) a1_0 a1_1 a1_2 a1_3) else (laws_FnExactPutEntry.j0 k l0 bt638.1 bt638.2 t642 bt649.1 bt649.2 true a1_0 a1_1 a1_2 a1_3)))))))))) = some r := H
    have A7 := Aside0.mk A70
    clear A70
    by_cases c8 : t630 < 0
    · rw [if_pos c8] at H
      have c8b0 : decide (t630 < 0) = true := decide_eq_true c8
      clear c8
      obtain rfl := Option.some.inj H
      go_enter Tryd.func9, Tryd.ntmps9
      go_wp2_with (first | ((with_reducible refine gate_dst (N := 3) rfl ?_); refine box_event ?hg (N := 3) ?hd (cs := #[.string a1_0, .int .i64 a1_1, .string a1_2, .bool a1_3]) (t := 44) ?hr ?_; (case hd => rfl); (case hg => rfl); (case hr => first | (go_simp; done) | (go_simp; rfl)); intro gb628 hg w9 hbox hb; have n0_ := Aside0.mk (below_step (by repeat (first | (with_reducible first | exact HB.out | apply below_alloc | apply pw_below_drewN | apply below_drew1) | exact HB.out)) hb); have n1_ := Aside0.mk (hbox); have n2_ := Aside0.mk ((by rw [hg]; exact (below_size (by repeat (first | (with_reducible first | exact HB.out | apply below_alloc | apply pw_below_drewN | apply below_drew1) | exact HB.out))) : w.heap.size ≤ gb628)); have n3_ := Aside0.mk ((by rw [hg]; exact (below_size (by repeat (first | (with_reducible first | exact HB.out | apply below_alloc | apply pw_below_drewN | apply below_drew1) | exact HB.out))) : w.heap.size ≤ gb628)); clear HB; have HB := n0_; have BK628 := n1_; have GW628 := n2_; have GE628 := n3_; clear n0_ n1_ n2_ n3_; clear hb hbox hg) | ((with_reducible refine gate_callee (f := 11) rfl ?_); refine goesL_ (some 18) rfl rfl Tryd.func11 (by kernel_rfl) rfl #[.slice A0 l0.length c0, .int .i64 1048576] rfl (by (try simp only [List.map_toArray, List.map_cons, List.map_nil]); first | done | rfl | (simp only [List.length_drop, List.length_take]; rfl)) ?_; (with_reducible refine (laws_szEntryS.calls k _ _ l0 1048576 t629 _ ?side1 ?side2 A3.out).mono ?_); (case side1 => repeat (first | exact (Kd.C_below HR0.out HB.out) | (with_reducible refine Kd.C_alloc ?_ _) | (with_reducible refine Kd.C_drewN ?_ _) | (with_reducible refine Kd.C_drew ?_))); (case side2 => exact HC0.out); rintro e w10 ⟨rfl, hb⟩; refine ⟨_, rfl, ?_⟩; have n0_ := Aside0.mk (blk_below (g := gb628) (o := .cells #[.string a1_0, .int .i64 a1_1, .string a1_2, .bool a1_3] 44 (0, 0)) (by (with_reducible repeat (first | refine blk_drewN ?_ _ | refine blk_drew ?_ | refine blk_alloc ?_ _)); exact BK628.out) hb); have n1_ := Aside0.mk (below_step (by repeat (first | (with_reducible first | exact HB.out | apply below_alloc | apply pw_below_drewN | apply below_drew1 | refine below_set ?_ GE628.out) | exact HB.out)) hb); clear BK628; clear HB; have BK628 := n0_; have HB := n1_; clear n0_ n1_; (try clear hb); (try clear hb2); (try clear hk); (try clear hi); have hcz11_0 : w10.cell? ⟨gb628, 0, none⟩ = some (.string a1_0) := (blk_cell BK628.out 0).trans rfl; have hcz11_1 : w10.cell? ⟨gb628, 1, none⟩ = some (.int .i64 a1_1) := (blk_cell BK628.out 1).trans rfl; have hcz11_2 : w10.cell? ⟨gb628, 2, none⟩ = some (.string a1_2) := (blk_cell BK628.out 2).trans rfl; have hcz11_3 : w10.cell? ⟨gb628, 3, none⟩ = some (.bool a1_3) := (blk_cell BK628.out 3).trans rfl; have hfz11_0 := blk_frozen BK628.out 0; have hfz11_1 := blk_frozen BK628.out 1; have hfz11_2 := blk_frozen BK628.out 2; have hfz11_3 := blk_frozen BK628.out 3) | ((with_reducible refine gate_callee (f := 32) rfl ?_); refine goesL_ (some 23) rfl rfl Tryd.func32 (by kernel_rfl) rfl #[.agg #[.string a1_0, .int .i64 a1_1, .string a1_2, .bool a1_3], .int .i64 t629] rfl (by (try simp only [List.map_toArray, List.map_cons, List.map_nil]); first | done | rfl | (simp only [List.length_drop, List.length_take]; rfl)) ?_; (with_reducible refine (laws_szEntry.calls a1_0 a1_1 a1_2 a1_3 t629 t630 _ A7.out).mono ?_); rintro e w12 ⟨rfl, hb⟩; refine ⟨_, rfl, ?_⟩; have n0_ := Aside0.mk (blk_below (g := gb628) (o := .cells #[.string a1_0, .int .i64 a1_1, .string a1_2, .bool a1_3] 44 (0, 0)) (by (with_reducible repeat (first | refine blk_drewN ?_ _ | refine blk_drew ?_ | refine blk_alloc ?_ _)); exact BK628.out) hb); have n1_ := Aside0.mk (below_step (by repeat (first | (with_reducible first | exact HB.out | apply below_alloc | apply pw_below_drewN | apply below_drew1 | refine below_set ?_ GE628.out) | exact HB.out)) hb); clear BK628; clear HB; have BK628 := n0_; have HB := n1_; clear n0_ n1_; (try clear hb); (try clear hb2); (try clear hk); (try clear hi)))
      go_ret
      exact ⟨by first | rfl | (simp [errW_none, errW_some] <;> rfl) | (simp [*, errW_none, errW_some] <;> rfl), by repeat (first | (with_reducible first | exact HB.out | apply below_alloc | apply pw_below_drewN | apply below_drew1 | refine below_set ?_ GE628.out) | exact HB.out)⟩
    · rw [if_neg c8] at H
      have c8b0 : decide (t630 < 0) = false := decide_eq_false c8
      clear c8
      replace H := Option.bind_eq_some_iff.mp H
      obtain ⟨t631, A130, H⟩ := H
      replace H : ((laws_toEntry.f a1_0 a1_1 a1_2 a1_3).bind fun bt634 => ((spec_PutEntry.f k t631 bt634.1 bt634.2.1 bt634.2.2.1 bt634.2.2.2).bind fun bt638 => ((laws_toEntryS.f k l0).bind fun t642 => ((laws_toEntry.f a1_0 a1_1 a1_2 a1_3).bind fun bt645 => ((impl_PutEntry.f k t642 bt645.1 bt645.2.1 bt645.2.2.1 bt645.2.2.2).bind fun bt649 => ((laws_eqEntryS.f k bt649.1 bt638.1).bind fun t653 => (if t653 = true then (laws_FnExactPutEntry.j0 k l0 bt638.1 bt638.2 t642 bt649.1 bt649.2 (bt649.2 != bt638.2) a1_0 a1_1 a1_2 a1_3) else (laws_FnExactPutEntry.j0 k l0 bt638.1 bt638.2 t642 bt649.1 bt649.2 true a1_0 a1_1 a1_2 a1_3)))))))) = some r := H
      have A13 := Aside0.mk A130
      clear A130
      replace H := Option.bind_eq_some_iff.mp H
      obtain ⟨⟨t634, t635, t636, t637⟩, A140, H⟩ := H
      replace H : ((spec_PutEntry.f k t631 t634 t635 t636 t637).bind fun bt638 => ((laws_toEntryS.f k l0).bind fun t642 => ((laws_toEntry.f a1_0 a1_1 a1_2 a1_3).bind fun bt645 => ((impl_PutEntry.f k t642 bt645.1 bt645.2.1 bt645.2.2.1 bt645.2.2.2).bind fun bt649 => ((laws_eqEntryS.f k bt649.1 bt638.1).bind fun t653 => (if t653 = true then (laws_FnExactPutEntry.j0 k l0 bt638.1 bt638.2 t642 bt649.1 bt649.2 (bt649.2 != bt638.2) a1_0 a1_1 a1_2 a1_3) else (laws_FnExactPutEntry.j0 k l0 bt638.1 bt638.2 t642 bt649.1 bt649.2 true a1_0 a1_1 a1_2 a1_3))))))) = some r := H
      have A14 := Aside0.mk A140
      clear A140
      replace H := Option.bind_eq_some_iff.mp H
      obtain ⟨⟨t638, t641⟩, A150, H⟩ := H
      replace H : ((laws_toEntryS.f k l0).bind fun t642 => ((laws_toEntry.f a1_0 a1_1 a1_2 a1_3).bind fun bt645 => ((impl_PutEntry.f k t642 bt645.1 bt645.2.1 bt645.2.2.1 bt645.2.2.2).bind fun bt649 => ((laws_eqEntryS.f k bt649.1 t638).bind fun t653 => (if t653 = true then (laws_FnExactPutEntry.j0 k l0 t638 t641 t642 bt649.1 bt649.2 (bt649.2 != t641) a1_0 a1_1 a1_2 a1_3) else (laws_FnExactPutEntry.j0 k l0 t638 t641 t642 bt649.1 bt649.2 true a1_0 a1_1 a1_2 a1_3)))))) = some r := H
      have A15 := Aside0.mk A150
      clear A150
      replace H := Option.bind_eq_some_iff.mp H
      obtain ⟨t642, A160, H⟩ := H
      replace H : ((laws_toEntry.f a1_0 a1_1 a1_2 a1_3).bind fun bt645 => ((impl_PutEntry.f k t642 bt645.1 bt645.2.1 bt645.2.2.1 bt645.2.2.2).bind fun bt649 => ((laws_eqEntryS.f k bt649.1 t638).bind fun t653 => (if t653 = true then (laws_FnExactPutEntry.j0 k l0 t638 t641 t642 bt649.1 bt649.2 (bt649.2 != t641) a1_0 a1_1 a1_2 a1_3) else (laws_FnExactPutEntry.j0 k l0 t638 t641 t642 bt649.1 bt649.2 true a1_0 a1_1 a1_2 a1_3))))) = some r := H
      have A16 := Aside0.mk A160
      clear A160
      replace H := Option.bind_eq_some_iff.mp H
      obtain ⟨⟨t645, t646, t647, t648⟩, A170, H⟩ := H
      replace H : ((impl_PutEntry.f k t642 t645 t646 t647 t648).bind fun bt649 => ((laws_eqEntryS.f k bt649.1 t638).bind fun t653 => (if t653 = true then (laws_FnExactPutEntry.j0 k l0 t638 t641 t642 bt649.1 bt649.2 (bt649.2 != t641) a1_0 a1_1 a1_2 a1_3) else (laws_FnExactPutEntry.j0 k l0 t638 t641 t642 bt649.1 bt649.2 true a1_0 a1_1 a1_2 a1_3)))) = some r := H
      have A17 := Aside0.mk A170
      clear A170
      replace H := Option.bind_eq_some_iff.mp H
      obtain ⟨⟨t649, t652⟩, A180, H⟩ := H
      replace H : ((laws_eqEntryS.f k t649 t638).bind fun t653 => (if t653 = true then (laws_FnExactPutEntry.j0 k l0 t638 t641 t642 t649 t652 (t652 != t641) a1_0 a1_1 a1_2 a1_3) else (laws_FnExactPutEntry.j0 k l0 t638 t641 t642 t649 t652 true a1_0 a1_1 a1_2 a1_3))) = some r := H
      have A18 := Aside0.mk A180
      clear A180
      have HC19 := Aside0.mk H
      clear H
      go_enter Tryd.func9, Tryd.ntmps9
      try go_wp2_with (first | ((with_reducible refine gate_dst (N := 3) rfl ?_); refine box_event ?hg (N := 3) ?hd (cs := #[.string a1_0, .int .i64 a1_1, .string a1_2, .bool a1_3]) (t := 44) ?hr ?_; (case hd => rfl); (case hg => rfl); (case hr => first | (go_simp; done) | (go_simp; rfl)); intro gb628 hg w20 hbox hb; have n0_ := Aside0.mk (below_step (by repeat (first | (with_reducible first | exact HB.out | apply below_alloc | apply pw_below_drewN | apply below_drew1) | exact HB.out)) hb); have n1_ := Aside0.mk (hbox); have n2_ := Aside0.mk ((by rw [hg]; exact (below_size (by repeat (first | (with_reducible first | exact HB.out | apply below_alloc | apply pw_below_drewN | apply below_drew1) | exact HB.out))) : w.heap.size ≤ gb628)); have n3_ := Aside0.mk ((by rw [hg]; exact (below_size (by repeat (first | (with_reducible first | exact HB.out | apply below_alloc | apply pw_below_drewN | apply below_drew1) | exact HB.out))) : w.heap.size ≤ gb628)); clear HB; have HB := n0_; have BK628 := n1_; have GW628 := n2_; have GE628 := n3_; clear n0_ n1_ n2_ n3_; clear hb hbox hg) | ((with_reducible refine gate_callee (f := 11) rfl ?_); refine goesL_ (some 18) rfl rfl Tryd.func11 (by kernel_rfl) rfl #[.slice A0 l0.length c0, .int .i64 1048576] rfl (by (try simp only [List.map_toArray, List.map_cons, List.map_nil]); first | done | rfl | (simp only [List.length_drop, List.length_take]; rfl)) ?_; (with_reducible refine (laws_szEntryS.calls k _ _ l0 1048576 t629 _ ?side1 ?side2 A3.out).mono ?_); (case side1 => repeat (first | exact (Kd.C_below HR0.out HB.out) | (with_reducible refine Kd.C_alloc ?_ _) | (with_reducible refine Kd.C_drewN ?_ _) | (with_reducible refine Kd.C_drew ?_))); (case side2 => exact HC0.out); rintro e w21 ⟨rfl, hb⟩; refine ⟨_, rfl, ?_⟩; have n0_ := Aside0.mk (blk_below (g := gb628) (o := .cells #[.string a1_0, .int .i64 a1_1, .string a1_2, .bool a1_3] 44 (0, 0)) (by (with_reducible repeat (first | refine blk_drewN ?_ _ | refine blk_drew ?_ | refine blk_alloc ?_ _)); exact BK628.out) hb); have n1_ := Aside0.mk (below_step (by repeat (first | (with_reducible first | exact HB.out | apply below_alloc | apply pw_below_drewN | apply below_drew1 | refine below_set ?_ GE628.out) | exact HB.out)) hb); clear BK628; clear HB; have BK628 := n0_; have HB := n1_; clear n0_ n1_; (try clear hb); (try clear hb2); (try clear hk); (try clear hi); have hcz22_0 : w21.cell? ⟨gb628, 0, none⟩ = some (.string a1_0) := (blk_cell BK628.out 0).trans rfl; have hcz22_1 : w21.cell? ⟨gb628, 1, none⟩ = some (.int .i64 a1_1) := (blk_cell BK628.out 1).trans rfl; have hcz22_2 : w21.cell? ⟨gb628, 2, none⟩ = some (.string a1_2) := (blk_cell BK628.out 2).trans rfl; have hcz22_3 : w21.cell? ⟨gb628, 3, none⟩ = some (.bool a1_3) := (blk_cell BK628.out 3).trans rfl; have hfz22_0 := blk_frozen BK628.out 0; have hfz22_1 := blk_frozen BK628.out 1; have hfz22_2 := blk_frozen BK628.out 2; have hfz22_3 := blk_frozen BK628.out 3) | ((with_reducible refine gate_callee (f := 32) rfl ?_); refine goesL_ (some 23) rfl rfl Tryd.func32 (by kernel_rfl) rfl #[.agg #[.string a1_0, .int .i64 a1_1, .string a1_2, .bool a1_3], .int .i64 t629] rfl (by (try simp only [List.map_toArray, List.map_cons, List.map_nil]); first | done | rfl | (simp only [List.length_drop, List.length_take]; rfl)) ?_; (with_reducible refine (laws_szEntry.calls a1_0 a1_1 a1_2 a1_3 t629 t630 _ A7.out).mono ?_); rintro e w23 ⟨rfl, hb⟩; refine ⟨_, rfl, ?_⟩; have n0_ := Aside0.mk (blk_below (g := gb628) (o := .cells #[.string a1_0, .int .i64 a1_1, .string a1_2, .bool a1_3] 44 (0, 0)) (by (with_reducible repeat (first | refine blk_drewN ?_ _ | refine blk_drew ?_ | refine blk_alloc ?_ _)); exact BK628.out) hb); have n1_ := Aside0.mk (below_step (by repeat (first | (with_reducible first | exact HB.out | apply below_alloc | apply pw_below_drewN | apply below_drew1 | refine below_set ?_ GE628.out) | exact HB.out)) hb); clear BK628; clear HB; have BK628 := n0_; have HB := n1_; clear n0_ n1_; (try clear hb); (try clear hb2); (try clear hk); (try clear hi)))
      have n0_ := Aside0.mk (blk_drew BK628.out)
      have n1_ := Aside0.mk (below_drew1 HB.out)
      clear BK628
      clear HB
      have BK628 := n0_
      have HB := n1_
      clear n0_ n1_
      refine start_ (n := 10) (S := fun w' => w'.cell? ⟨gb628, 0, none⟩ = some (.string a1_0) ∧ w'.cell? ⟨gb628, 1, none⟩ = some (.int .i64 a1_1) ∧ w'.cell? ⟨gb628, 2, none⟩ = some (.string a1_2) ∧ w'.cell? ⟨gb628, 3, none⟩ = some (.bool a1_3)) (ds := []) #[false, false, false, false, false, false, false, false, false, false] (by kernel_rfl) rfl rfl ⟨(blk_cell BK628.out 0).trans rfl, (blk_cell BK628.out 1).trans rfl, (blk_cell BK628.out 2).trans rfl, (blk_cell BK628.out 3).trans rfl⟩ (fun hHeld => ?_); refine with_tabW laws_FnExactPutEntry.tab8 laws_FnExactPutEntry.bits8 (fun HT_ HW_ => ?_)
      generalize w23.drew = w24 at BK628 HB hHeld ⊢
      refine pure_ (i := 0) (N := some 27) (v := ?_) (a' := ?_) #[true, false, false, false, false, false, false, false, false, false] rfl rfl (any_of HT_.out (by kernel_rfl)) (fun _ _ _ h => h) (Or.inl ⟨by rfl, ?_⟩) ?_ ?_
      rotate_left
      · intro w'
        go_simp
        with_reducible rfl
      rotate_left
      · simp only [Act.put, List.setIfInBounds_toArray, List.set_cons_zero, List.set_cons_succ, i64_w, i32_w]
        rfl
      refine take_ (i := 2) (N := some 29) (v := ?_) (a' := ?_) #[true, false, true, false, false, false, false, false, false, false] rfl rfl (take_ofW HT_.out HW_.out (by kernel_rfl)) (fun _ _ _ h => h) (Or.inl ⟨by rfl, ?_⟩) hHeld ?_ ?_
      rotate_left
      · rintro w' ⟨s0, s1, s2, s3⟩
        go_simp
        with_reducible rfl
      rotate_left
      · simp only [Act.put, List.setIfInBounds_toArray, List.set_cons_zero, List.set_cons_succ, i64_w, i32_w]
        rfl
      refine one_ (i := 1) (N := some 28) #[true, true, true, false, false, false, false, false, false, false] rfl rfl (one_of HT_.out (by kernel_rfl)) (by decide) (fun K hK => ?_)
      refine goes_ Tryd.func13 (by kernel_rfl) rfl #[.slice A0 l0.length c0] (by rfl) rfl rfl (by (try simp only [List.map_toArray, List.map_cons, List.map_nil]); first | done | rfl | (simp only [List.length_drop, List.length_take]; rfl)) ?_
      with_reducible refine (laws_toEntryS.calls k _ _ l0 t631 _ ?side1 ?side2 A13.out).mono ?_
      (case side1 => repeat (first | exact (Kd.C_below HR0.out HB.out) | (with_reducible refine Kd.C_alloc ?_ _) | (with_reducible refine Kd.C_drewN ?_ _) | (with_reducible refine Kd.C_drew ?_)))
      (case side2 => exact HC0.out)
      rintro e w25 ⟨v632, rfl, ho0, hb⟩
      refine ⟨_, rfl, ?_⟩
      have n0_ := Aside0.mk (Kd.R_lower ho0 (below_size (by repeat (first | (with_reducible first | exact HB.out | apply below_alloc | apply pw_below_drewN | apply below_drew1 | refine below_set ?_ GE628.out) | exact HB.out))))
      have n1_ := Aside0.mk (blk_below (g := gb628) (o := .cells #[.string a1_0, .int .i64 a1_1, .string a1_2, .bool a1_3] 44 (0, 0)) (by (with_reducible repeat (first | refine blk_drewN ?_ _ | refine blk_drew ?_ | refine blk_alloc ?_ _)); exact BK628.out) hb)
      have n2_ := Aside0.mk (below_step (by repeat (first | (with_reducible first | exact HB.out | apply below_alloc | apply pw_below_drewN | apply below_drew1 | refine below_set ?_ GE628.out) | exact HB.out)) hb)
      clear BK628
      clear HB
      have HO633 := n0_
      have BK628 := n1_
      have HB := n2_
      clear n0_ n1_ n2_
      (try clear hb)
      (try clear hb2)
      (try clear hk)
      (try clear hi)
      (try clear ho0)
      refine hK.out _ _ ⟨(blk_cell BK628.out 0).trans rfl, (blk_cell BK628.out 1).trans rfl, (blk_cell BK628.out 2).trans rfl, (blk_cell BK628.out 3).trans rfl⟩ (fun hHeld => ?_)
      clear hK K
      refine norm_ (a' := ?_) ?_ ?_
      rotate_left
      · show Act.put _ (some 28) _ = _
        simp only [Act.put, List.setIfInBounds_toArray, List.set_cons_zero, List.set_cons_succ, i64_w, i32_w]
        rfl
      refine one_ (i := 3) (N := some 30) #[true, true, true, true, false, false, false, false, false, false] rfl rfl (one_of HT_.out (by kernel_rfl)) (by decide) (fun K hK => ?_)
      refine goes_ Tryd.func34 (by kernel_rfl) rfl #[.agg #[.string a1_0, .int .i64 a1_1, .string a1_2, .bool a1_3]] (by rfl) rfl rfl (by (try simp only [List.map_toArray, List.map_cons, List.map_nil]); first | done | rfl | (simp only [List.length_drop, List.length_take]; rfl)) ?_
      with_reducible refine (laws_toEntry.calls a1_0 a1_1 a1_2 a1_3 t634 t635 t636 t637 _ A14.out).mono ?_
      rintro e w26 ⟨rfl, hb⟩
      refine ⟨_, rfl, ?_⟩
      have n0_ := Aside0.mk (Kd.R_below (by (with_reducible repeat (first | apply Kd.R_alloc | apply Kd.R_drewN | apply Kd.R_drew)); exact HO633.out) hb)
      have n1_ := Aside0.mk (blk_below (g := gb628) (o := .cells #[.string a1_0, .int .i64 a1_1, .string a1_2, .bool a1_3] 44 (0, 0)) (by (with_reducible repeat (first | refine blk_drewN ?_ _ | refine blk_drew ?_ | refine blk_alloc ?_ _)); exact BK628.out) hb)
      have n2_ := Aside0.mk (below_step (by repeat (first | (with_reducible first | exact HB.out | apply below_alloc | apply pw_below_drewN | apply below_drew1 | refine below_set ?_ GE628.out) | exact HB.out)) hb)
      clear HO633
      clear BK628
      clear HB
      have HO633 := n0_
      have BK628 := n1_
      have HB := n2_
      clear n0_ n1_ n2_
      (try clear hb)
      (try clear hb2)
      (try clear hk)
      (try clear hi)
      obtain ⟨Ao27, co27, eo27⟩ := Kd.R_slice HO633.out
      (first | subst eo27 | (injection eo27 with f1_ f2_ f3_; have f4_ := f1_.symm; have f5_ := f3_.symm; clear f1_ f2_ f3_; subst f4_; subst f5_))
      refine hK.out _ _ ⟨(blk_cell BK628.out 0).trans rfl, (blk_cell BK628.out 1).trans rfl, (blk_cell BK628.out 2).trans rfl, (blk_cell BK628.out 3).trans rfl⟩ (fun hHeld => ?_)
      clear hK K
      refine norm_ (a' := ?_) ?_ ?_
      rotate_left
      · show Act.put _ (some 30) _ = _
        simp only [Act.put, List.setIfInBounds_toArray, List.set_cons_zero, List.set_cons_succ, i64_w, i32_w]
        rfl
      refine one_ (i := 4) (N := some 31) #[true, true, true, true, true, false, false, false, false, false] rfl rfl (one_of HT_.out (by kernel_rfl)) (by decide) (fun K hK => ?_)
      refine goes_ Tryd.func33 (by kernel_rfl) rfl #[.slice Ao27 t631.length co27, .agg #[.string t634, .int .i64 t635, .string t636, .bool t637]] (by rfl) rfl rfl (by (try simp only [List.map_toArray, List.map_cons, List.map_nil]); first | done | rfl | (simp only [List.length_drop, List.length_take]; rfl)) ?_
      with_reducible refine (spec_PutEntry.calls k _ _ t631 t634 t635 t636 t637 t638 t641 _ ?side1 ?side2 A15.out).mono ?_
      (case side1 => repeat (first | exact (Kd.R_reads' HO633.out).2.2 | (with_reducible refine Kd.C_alloc ?_ _) | (with_reducible refine Kd.C_drewN ?_ _) | (with_reducible refine Kd.C_drew ?_)))
      (case side2 => exact (Kd.R_reads' HO633.out).2.1)
      rintro e w28 ⟨v639, rfl, ho0, hb⟩
      refine ⟨_, rfl, ?_⟩
      have n0_ := Aside0.mk (Kd.R_elder' (by (with_reducible repeat (first | apply Kd.R_alloc | apply Kd.R_drewN | apply Kd.R_drew)); exact HO633.out) (Kd.R_base ho0) hb)
      have n1_ := Aside0.mk (Kd.R_lower (Kd.R_new' ho0 (Kd.R_lt (by (with_reducible repeat (first | apply Kd.R_alloc | apply Kd.R_drewN | apply Kd.R_drew)); exact HO633.out))) (below_size (by repeat (first | (with_reducible first | exact HB.out | apply below_alloc | apply pw_below_drewN | apply below_drew1 | refine below_set ?_ GE628.out) | exact HB.out))))
      have n2_ := Aside0.mk (blk_below (g := gb628) (o := .cells #[.string a1_0, .int .i64 a1_1, .string a1_2, .bool a1_3] 44 (0, 0)) (by (with_reducible repeat (first | refine blk_drewN ?_ _ | refine blk_drew ?_ | refine blk_alloc ?_ _)); exact BK628.out) hb)
      have n3_ := Aside0.mk (below_step (by repeat (first | (with_reducible first | exact HB.out | apply below_alloc | apply pw_below_drewN | apply below_drew1 | refine below_set ?_ GE628.out) | exact HB.out)) hb)
      clear HO633
      clear BK628
      clear HB
      have HO633 := n0_
      have HO640 := n1_
      have BK628 := n2_
      have HB := n3_
      clear n0_ n1_ n2_ n3_
      (try clear hb)
      (try clear hb2)
      (try clear hk)
      (try clear hi)
      (try clear ho0)
      refine hK.out _ _ ⟨(blk_cell BK628.out 0).trans rfl, (blk_cell BK628.out 1).trans rfl, (blk_cell BK628.out 2).trans rfl, (blk_cell BK628.out 3).trans rfl⟩ (fun hHeld => ?_)
      clear hK K
      refine norm_ (a' := ?_) ?_ ?_
      rotate_left
      · show Act.put _ (some 31) _ = _
        simp only [Act.put, List.setIfInBounds_toArray, List.set_cons_zero, List.set_cons_succ, i64_w, i32_w]
        rfl
      refine pure_ (i := 5) (N := some 26) (v := ?_) (a' := ?_) #[true, true, true, true, true, true, false, false, false, false] rfl rfl (any_of HT_.out (by kernel_rfl)) (fun _ _ _ h => h) (Or.inl ⟨by rfl, ?_⟩) ?_ ?_
      rotate_left
      · intro w'
        go_simp
        with_reducible rfl
      rotate_left
      · simp only [Act.put, List.setIfInBounds_toArray, List.set_cons_zero, List.set_cons_succ, i64_w, i32_w]
        rfl
      refine pure_ (i := 6) (N := some 32) (v := ?_) (a' := ?_) #[true, true, true, true, true, true, true, false, false, false] rfl rfl (any_of HT_.out (by kernel_rfl)) (fun _ _ _ h => h) (Or.inl ⟨by rfl, ?_⟩) ?_ ?_
      rotate_left
      · intro w'
        go_simp
        with_reducible rfl
      rotate_left
      · simp only [Act.put, List.setIfInBounds_toArray, List.set_cons_zero, List.set_cons_succ, i64_w, i32_w]
        rfl
      refine pure_ (i := 7) (N := some 33) (v := ?_) (a' := ?_) #[true, true, true, true, true, true, true, true, false, false] rfl rfl (any_of HT_.out (by kernel_rfl)) (fun _ _ _ h => h) (Or.inl ⟨by rfl, ?_⟩) ?_ ?_
      rotate_left
      · intro w'
        go_simp
        with_reducible rfl
      rotate_left
      · simp only [Act.put, List.setIfInBounds_toArray, List.set_cons_zero, List.set_cons_succ, i64_w, i32_w]
        rfl
      refine pure_ (i := 8) (N := some 6) (v := ?_) (a' := ?_) #[true, true, true, true, true, true, true, true, true, false] rfl rfl (any_of HT_.out (by kernel_rfl)) (fun _ _ _ h => h) (Or.inl ⟨by rfl, ?_⟩) ?_ ?_
      rotate_left
      · intro w'
        go_simp
        with_reducible rfl
      rotate_left
      · simp only [Act.put, List.setIfInBounds_toArray, List.set_cons_zero, List.set_cons_succ, i64_w, i32_w]
        rfl
      refine pure_ (i := 9) (N := some 7) (v := ?_) (a' := ?_) #[true, true, true, true, true, true, true, true, true, true] rfl rfl (any_of HT_.out (by kernel_rfl)) (fun _ _ _ h => h) (Or.inl ⟨by rfl, ?_⟩) ?_ ?_
      rotate_left
      · intro w'
        go_simp
        with_reducible rfl
      rotate_left
      · simp only [Act.put, List.setIfInBounds_toArray, List.set_cons_zero, List.set_cons_succ, i64_w, i32_w]
        rfl
      refine done_ (done_of HT_.out (by kernel_rfl)) ?_
      go_upto_region 11 with (first | ((with_reducible refine gate_callee (f := 13) rfl ?_); refine goesL_ (some 35) rfl rfl Tryd.func13 (by kernel_rfl) rfl #[.slice A0 l0.length c0] rfl (by (try simp only [List.map_toArray, List.map_cons, List.map_nil]); first | done | rfl | (simp only [List.length_drop, List.length_take]; rfl)) ?_; (with_reducible refine (laws_toEntryS.calls k _ _ l0 t642 _ ?side1 ?side2 A16.out).mono ?_); (case side1 => repeat (first | exact (Kd.C_below HR0.out HB.out) | (with_reducible refine Kd.C_alloc ?_ _) | (with_reducible refine Kd.C_drewN ?_ _) | (with_reducible refine Kd.C_drew ?_))); (case side2 => exact HC0.out); rintro e w29 ⟨v643, rfl, ho0, hb⟩; refine ⟨_, rfl, ?_⟩; have n0_ := Aside0.mk (Kd.R_elder' (by (with_reducible repeat (first | apply Kd.R_alloc | apply Kd.R_drewN | apply Kd.R_drew)); exact HO633.out) (Kd.R_base ho0) hb); have n1_ := Aside0.mk (Kd.R_elder' (by (with_reducible repeat (first | apply Kd.R_alloc | apply Kd.R_drewN | apply Kd.R_drew)); exact HO640.out) (Kd.R_base ho0) hb); have n2_ := Aside0.mk (Kd.R_lower (Kd.R_new' (Kd.R_new' ho0 (Kd.R_lt (by (with_reducible repeat (first | apply Kd.R_alloc | apply Kd.R_drewN | apply Kd.R_drew)); exact HO633.out))) (Kd.R_lt (by (with_reducible repeat (first | apply Kd.R_alloc | apply Kd.R_drewN | apply Kd.R_drew)); exact HO640.out))) (below_size (by repeat (first | (with_reducible first | exact HB.out | apply below_alloc | apply pw_below_drewN | apply below_drew1 | refine below_set ?_ GE628.out) | exact HB.out)))); have n3_ := Aside0.mk (blk_below (g := gb628) (o := .cells #[.string a1_0, .int .i64 a1_1, .string a1_2, .bool a1_3] 44 (0, 0)) (by (with_reducible repeat (first | refine blk_drewN ?_ _ | refine blk_drew ?_ | refine blk_alloc ?_ _)); exact BK628.out) hb); have n4_ := Aside0.mk (below_step (by repeat (first | (with_reducible first | exact HB.out | apply below_alloc | apply pw_below_drewN | apply below_drew1 | refine below_set ?_ GE628.out) | exact HB.out)) hb); clear HO633; clear HO640; clear BK628; clear HB; have HO633 := n0_; have HO640 := n1_; have HO644 := n2_; have BK628 := n3_; have HB := n4_; clear n0_ n1_ n2_ n3_ n4_; (try clear hb); (try clear hb2); (try clear hk); (try clear hi); (try clear ho0); have hcz30_0 : w29.cell? ⟨gb628, 0, none⟩ = some (.string a1_0) := (blk_cell BK628.out 0).trans rfl; have hcz30_1 : w29.cell? ⟨gb628, 1, none⟩ = some (.int .i64 a1_1) := (blk_cell BK628.out 1).trans rfl; have hcz30_2 : w29.cell? ⟨gb628, 2, none⟩ = some (.string a1_2) := (blk_cell BK628.out 2).trans rfl; have hcz30_3 : w29.cell? ⟨gb628, 3, none⟩ = some (.bool a1_3) := (blk_cell BK628.out 3).trans rfl; have hfz30_0 := blk_frozen BK628.out 0; have hfz30_1 := blk_frozen BK628.out 1; have hfz30_2 := blk_frozen BK628.out 2; have hfz30_3 := blk_frozen BK628.out 3) | ((with_reducible refine gate_callee (f := 34) rfl ?_); refine goesL_ (some 39) rfl rfl Tryd.func34 (by kernel_rfl) rfl #[.agg #[.string a1_0, .int .i64 a1_1, .string a1_2, .bool a1_3]] rfl (by (try simp only [List.map_toArray, List.map_cons, List.map_nil]); first | done | rfl | (simp only [List.length_drop, List.length_take]; rfl)) ?_; (with_reducible refine (laws_toEntry.calls a1_0 a1_1 a1_2 a1_3 t645 t646 t647 t648 _ A17.out).mono ?_); rintro e w31 ⟨rfl, hb⟩; refine ⟨_, rfl, ?_⟩; have n0_ := Aside0.mk (Kd.R_below (by (with_reducible repeat (first | apply Kd.R_alloc | apply Kd.R_drewN | apply Kd.R_drew)); exact HO633.out) hb); have n1_ := Aside0.mk (Kd.R_below (by (with_reducible repeat (first | apply Kd.R_alloc | apply Kd.R_drewN | apply Kd.R_drew)); exact HO640.out) hb); have n2_ := Aside0.mk (Kd.R_below (by (with_reducible repeat (first | apply Kd.R_alloc | apply Kd.R_drewN | apply Kd.R_drew)); exact HO644.out) hb); have n3_ := Aside0.mk (blk_below (g := gb628) (o := .cells #[.string a1_0, .int .i64 a1_1, .string a1_2, .bool a1_3] 44 (0, 0)) (by (with_reducible repeat (first | refine blk_drewN ?_ _ | refine blk_drew ?_ | refine blk_alloc ?_ _)); exact BK628.out) hb); have n4_ := Aside0.mk (below_step (by repeat (first | (with_reducible first | exact HB.out | apply below_alloc | apply pw_below_drewN | apply below_drew1 | refine below_set ?_ GE628.out) | exact HB.out)) hb); clear HO633; clear HO640; clear HO644; clear BK628; clear HB; have HO633 := n0_; have HO640 := n1_; have HO644 := n2_; have BK628 := n3_; have HB := n4_; clear n0_ n1_ n2_ n3_ n4_; (try clear hb); (try clear hb2); (try clear hk); (try clear hi); obtain ⟨Ao32, co32, eo32⟩ := Kd.R_slice HO644.out; subst eo32) | ((with_reducible refine gate_callee (f := 35) rfl ?_); refine goesL_ (some 40) rfl rfl Tryd.func35 (by kernel_rfl) rfl #[.slice Ao32 t642.length co32, .agg #[.string t645, .int .i64 t646, .string t647, .bool t648]] rfl (by (try simp only [List.map_toArray, List.map_cons, List.map_nil]); first | done | rfl | (simp only [List.length_drop, List.length_take]; rfl)) ?_; (with_reducible refine (impl_PutEntry.calls k _ _ t642 t645 t646 t647 t648 t649 t652 _ ?side1 ?side2 ?side3 A18.out).mono ?_); (case side1 => refine EnvW.below HE.out ?_; repeat (first | (with_reducible first | exact HB.out | apply below_alloc | apply pw_below_drewN | apply below_drew1 | refine below_set ?_ GE628.out) | exact HB.out)); (case side2 => repeat (first | exact (Kd.R_reads' HO644.out).2.2 | (with_reducible refine Kd.C_alloc ?_ _) | (with_reducible refine Kd.C_drewN ?_ _) | (with_reducible refine Kd.C_drew ?_))); (case side3 => exact (Kd.R_reads' HO644.out).2.1); rintro e w33 ⟨v650, rfl, ho0, hb⟩; refine ⟨_, rfl, ?_⟩; have n0_ := Aside0.mk (Kd.R_elder' (by (with_reducible repeat (first | apply Kd.R_alloc | apply Kd.R_drewN | apply Kd.R_drew)); exact HO633.out) (Kd.R_base ho0) hb); have n1_ := Aside0.mk (Kd.R_elder' (by (with_reducible repeat (first | apply Kd.R_alloc | apply Kd.R_drewN | apply Kd.R_drew)); exact HO640.out) (Kd.R_base ho0) hb); have n2_ := Aside0.mk (Kd.R_elder' (by (with_reducible repeat (first | apply Kd.R_alloc | apply Kd.R_drewN | apply Kd.R_drew)); exact HO644.out) (Kd.R_base ho0) hb); have n3_ := Aside0.mk (Kd.R_lower (Kd.R_new' (Kd.R_new' (Kd.R_new' ho0 (Kd.R_lt (by (with_reducible repeat (first | apply Kd.R_alloc | apply Kd.R_drewN | apply Kd.R_drew)); exact HO633.out))) (Kd.R_lt (by (with_reducible repeat (first | apply Kd.R_alloc | apply Kd.R_drewN | apply Kd.R_drew)); exact HO640.out))) (Kd.R_lt (by (with_reducible repeat (first | apply Kd.R_alloc | apply Kd.R_drewN | apply Kd.R_drew)); exact HO644.out))) (below_size (by repeat (first | (with_reducible first | exact HB.out | apply below_alloc | apply pw_below_drewN | apply below_drew1 | refine below_set ?_ GE628.out) | exact HB.out)))); have n4_ := Aside0.mk (blk_below (g := gb628) (o := .cells #[.string a1_0, .int .i64 a1_1, .string a1_2, .bool a1_3] 44 (0, 0)) (by (with_reducible repeat (first | refine blk_drewN ?_ _ | refine blk_drew ?_ | refine blk_alloc ?_ _)); exact BK628.out) hb); have n5_ := Aside0.mk (below_step (by repeat (first | (with_reducible first | exact HB.out | apply below_alloc | apply pw_below_drewN | apply below_drew1 | refine below_set ?_ GE628.out) | exact HB.out)) hb); clear HO633; clear HO640; clear HO644; clear BK628; clear HB; have HO633 := n0_; have HO640 := n1_; have HO644 := n2_; have HO651 := n3_; have BK628 := n4_; have HB := n5_; clear n0_ n1_ n2_ n3_ n4_ n5_; (try clear hb); (try clear hb2); (try clear hk); (try clear hi); (try clear ho0)))
      (try simp only [Act.put, List.setIfInBounds_toArray, List.set_cons_zero, List.set_cons_succ])
      go_cut [51] (fun v51 wc => ∃ (kq : Nat) (x51_18 : Bool), v51 = .bool x51_18 ∧ Aside0 (laws_FnExactPutEntry.j0 kq l0 t638 t641 t642 t649 t652 x51_18 a1_0 a1_1 a1_2 a1_3 = some r) ∧ Aside0 (kq ≤ k) ∧ Aside0 (Kd.R k47 47 wc w.heap.size (fun k_ => some k_ ≠ ((.slice Ao32 t642.length co32) : Value).ownBlock ∧ some k_ ≠ (v650 : Value).ownBlock) v639 t638) ∧ Aside0 (Kd.R k47 47 wc w.heap.size (fun k_ => some k_ ≠ (v639 : Value).ownBlock ∧ some k_ ≠ (v650 : Value).ownBlock) (.slice Ao32 t642.length co32) t642) ∧ Aside0 (Kd.R k47 47 wc w.heap.size (fun k_ => some k_ ≠ (v639 : Value).ownBlock ∧ some k_ ≠ ((.slice Ao32 t642.length co32) : Value).ownBlock) v650 t649) ∧ Aside0 (wc.heap[gb628]? = some (.cells #[.string a1_0, .int .i64 a1_1, .string a1_2, .bool a1_3] 44 (0, 0))) ∧ Aside0 (Below w.heap.size w wc))
      case first =>
        have H := HC19.out
        clear HC19
        replace H := Option.bind_eq_some_iff.mp H
        obtain ⟨t653, A340, H⟩ := H
        replace H : (if t653 = true then (laws_FnExactPutEntry.j0 k l0 t638 t641 t642 t649 t652 (t652 != t641) a1_0 a1_1 a1_2 a1_3) else (laws_FnExactPutEntry.j0 k l0 t638 t641 t642 t649 t652 true a1_0 a1_1 a1_2 a1_3)) = some r := H
        have A34 := Aside0.mk A340
        clear A340
        by_cases c35 : t653 = true
        · subst c35
          have H1 : (laws_FnExactPutEntry.j0 k l0 t638 t641 t642 t649 t652 (t652 != t641) a1_0 a1_1 a1_2 a1_3) = some r := by rw [if_pos rfl] at H; exact H
          clear H
          have H := H1
          clear H1
          have H' := Aside0.mk H
          clear H
          obtain ⟨Ao36, co36, eo36⟩ := Kd.R_slice HO651.out
          subst eo36
          obtain ⟨Ao37, co37, eo37⟩ := Kd.R_slice HO640.out
          subst eo37
          go_wp2_with (first | ((with_reducible refine gate_callee (f := 15) rfl ?_); refine goesL_ (some 45) rfl rfl Tryd.func15 (by kernel_rfl) rfl #[.slice Ao36 t649.length co36, .slice Ao37 t638.length co37] rfl (by (try simp only [List.map_toArray, List.map_cons, List.map_nil]); first | done | rfl | (simp only [List.length_drop, List.length_take]; rfl)) ?_; (with_reducible refine (laws_eqEntryS.calls k _ _ t649 _ _ t638 true _ ?side1 ?side2 ?side3 ?side4 A34.out).mono ?_); (case side1 => repeat (first | exact (Kd.R_reads' HO651.out).2.2 | (with_reducible refine Kd.C_alloc ?_ _) | (with_reducible refine Kd.C_drewN ?_ _) | (with_reducible refine Kd.C_drew ?_))); (case side2 => exact (Kd.R_reads' HO651.out).2.1); (case side3 => repeat (first | exact (Kd.R_reads' HO640.out).2.2 | (with_reducible refine Kd.C_alloc ?_ _) | (with_reducible refine Kd.C_drewN ?_ _) | (with_reducible refine Kd.C_drew ?_))); (case side4 => exact (Kd.R_reads' HO640.out).2.1); rintro e w38 ⟨rfl, hb⟩; refine ⟨_, rfl, ?_⟩; have n0_ := Aside0.mk (Kd.R_below (by (with_reducible repeat (first | apply Kd.R_alloc | apply Kd.R_drewN | apply Kd.R_drew)); exact HO633.out) hb); have n1_ := Aside0.mk (Kd.R_below (by (with_reducible repeat (first | apply Kd.R_alloc | apply Kd.R_drewN | apply Kd.R_drew)); exact HO640.out) hb); have n2_ := Aside0.mk (Kd.R_below (by (with_reducible repeat (first | apply Kd.R_alloc | apply Kd.R_drewN | apply Kd.R_drew)); exact HO644.out) hb); have n3_ := Aside0.mk (Kd.R_below (by (with_reducible repeat (first | apply Kd.R_alloc | apply Kd.R_drewN | apply Kd.R_drew)); exact HO651.out) hb); have n4_ := Aside0.mk (blk_below (g := gb628) (o := .cells #[.string a1_0, .int .i64 a1_1, .string a1_2, .bool a1_3] 44 (0, 0)) (by (with_reducible repeat (first | refine blk_drewN ?_ _ | refine blk_drew ?_ | refine blk_alloc ?_ _)); exact BK628.out) hb); have n5_ := Aside0.mk (below_step (by repeat (first | (with_reducible first | exact HB.out | apply below_alloc | apply pw_below_drewN | apply below_drew1 | refine below_set ?_ GE628.out) | exact HB.out)) hb); clear HO633; clear HO640; clear HO644; clear HO651; clear BK628; clear HB; have HO633 := n0_; have HO640 := n1_; have HO644 := n2_; have HO651 := n3_; have BK628 := n4_; have HB := n5_; clear n0_ n1_ n2_ n3_ n4_ n5_; (try clear hb); (try clear hb2); (try clear hk); (try clear hi)))
          go_meet
          case rel => exact ⟨_, ((t652 != t641)), (by first | rfl | (simp; done) | (simp [*]; done)), H', ⟨by first | omega | exact Nat.le_refl _⟩, ⟨by (with_reducible repeat (first | apply Kd.R_alloc | apply Kd.R_drewN | apply Kd.R_drew)); exact Kd.R_mono HO640.out (fun _ hk => ⟨hk.1.2, hk.2⟩)⟩, ⟨by (with_reducible repeat (first | apply Kd.R_alloc | apply Kd.R_drewN | apply Kd.R_drew)); exact Kd.R_mono HO644.out (fun _ hk => ⟨hk.1.2, hk.2⟩)⟩, ⟨by (with_reducible repeat (first | apply Kd.R_alloc | apply Kd.R_drewN | apply Kd.R_drew)); exact Kd.R_mono HO651.out (fun _ hk => ⟨hk.1.2, hk.2⟩)⟩, ⟨by (with_reducible repeat (first | refine blk_drewN ?_ _ | refine blk_drew ?_ | refine blk_alloc ?_ _)); exact BK628.out⟩, ⟨by repeat (first | (with_reducible first | exact HB.out | apply below_alloc | apply pw_below_drewN | apply below_drew1 | refine below_set ?_ GE628.out) | exact HB.out)⟩⟩
        · replace c35 := Bool.eq_false_iff.mpr c35
          subst c35
          have H1 : (laws_FnExactPutEntry.j0 k l0 t638 t641 t642 t649 t652 true a1_0 a1_1 a1_2 a1_3) = some r := by rw [if_neg (show ¬ (false = true) by decide)] at H; exact H
          clear H
          have H := H1
          clear H1
          have H' := Aside0.mk H
          clear H
          obtain ⟨Ao39, co39, eo39⟩ := Kd.R_slice HO651.out
          subst eo39
          obtain ⟨Ao40, co40, eo40⟩ := Kd.R_slice HO640.out
          subst eo40
          go_wp2_with (first | ((with_reducible refine gate_callee (f := 15) rfl ?_); refine goesL_ (some 45) rfl rfl Tryd.func15 (by kernel_rfl) rfl #[.slice Ao39 t649.length co39, .slice Ao40 t638.length co40] rfl (by (try simp only [List.map_toArray, List.map_cons, List.map_nil]); first | done | rfl | (simp only [List.length_drop, List.length_take]; rfl)) ?_; (with_reducible refine (laws_eqEntryS.calls k _ _ t649 _ _ t638 false _ ?side1 ?side2 ?side3 ?side4 A34.out).mono ?_); (case side1 => repeat (first | exact (Kd.R_reads' HO651.out).2.2 | (with_reducible refine Kd.C_alloc ?_ _) | (with_reducible refine Kd.C_drewN ?_ _) | (with_reducible refine Kd.C_drew ?_))); (case side2 => exact (Kd.R_reads' HO651.out).2.1); (case side3 => repeat (first | exact (Kd.R_reads' HO640.out).2.2 | (with_reducible refine Kd.C_alloc ?_ _) | (with_reducible refine Kd.C_drewN ?_ _) | (with_reducible refine Kd.C_drew ?_))); (case side4 => exact (Kd.R_reads' HO640.out).2.1); rintro e w41 ⟨rfl, hb⟩; refine ⟨_, rfl, ?_⟩; have n0_ := Aside0.mk (Kd.R_below (by (with_reducible repeat (first | apply Kd.R_alloc | apply Kd.R_drewN | apply Kd.R_drew)); exact HO633.out) hb); have n1_ := Aside0.mk (Kd.R_below (by (with_reducible repeat (first | apply Kd.R_alloc | apply Kd.R_drewN | apply Kd.R_drew)); exact HO640.out) hb); have n2_ := Aside0.mk (Kd.R_below (by (with_reducible repeat (first | apply Kd.R_alloc | apply Kd.R_drewN | apply Kd.R_drew)); exact HO644.out) hb); have n3_ := Aside0.mk (Kd.R_below (by (with_reducible repeat (first | apply Kd.R_alloc | apply Kd.R_drewN | apply Kd.R_drew)); exact HO651.out) hb); have n4_ := Aside0.mk (blk_below (g := gb628) (o := .cells #[.string a1_0, .int .i64 a1_1, .string a1_2, .bool a1_3] 44 (0, 0)) (by (with_reducible repeat (first | refine blk_drewN ?_ _ | refine blk_drew ?_ | refine blk_alloc ?_ _)); exact BK628.out) hb); have n5_ := Aside0.mk (below_step (by repeat (first | (with_reducible first | exact HB.out | apply below_alloc | apply pw_below_drewN | apply below_drew1 | refine below_set ?_ GE628.out) | exact HB.out)) hb); clear HO633; clear HO640; clear HO644; clear HO651; clear BK628; clear HB; have HO633 := n0_; have HO640 := n1_; have HO644 := n2_; have HO651 := n3_; have BK628 := n4_; have HB := n5_; clear n0_ n1_ n2_ n3_ n4_ n5_; (try clear hb); (try clear hb2); (try clear hk); (try clear hi)))
          go_meet
          case rel => exact ⟨_, (true), (by first | rfl | (simp; done) | (simp [*]; done)), H', ⟨by first | omega | exact Nat.le_refl _⟩, ⟨by (with_reducible repeat (first | apply Kd.R_alloc | apply Kd.R_drewN | apply Kd.R_drew)); exact Kd.R_mono HO640.out (fun _ hk => ⟨hk.1.2, hk.2⟩)⟩, ⟨by (with_reducible repeat (first | apply Kd.R_alloc | apply Kd.R_drewN | apply Kd.R_drew)); exact Kd.R_mono HO644.out (fun _ hk => ⟨hk.1.2, hk.2⟩)⟩, ⟨by (with_reducible repeat (first | apply Kd.R_alloc | apply Kd.R_drewN | apply Kd.R_drew)); exact Kd.R_mono HO651.out (fun _ hk => ⟨hk.1.2, hk.2⟩)⟩, ⟨by (with_reducible repeat (first | refine blk_drewN ?_ _ | refine blk_drew ?_ | refine blk_alloc ?_ _)); exact BK628.out⟩, ⟨by repeat (first | (with_reducible first | exact HB.out | apply below_alloc | apply pw_below_drewN | apply below_drew1 | refine below_set ?_ GE628.out) | exact HB.out)⟩⟩
      case rest =>
        clear HC19
        try clear c1
        try clear p2
        try clear c3
        try clear c4
        try clear c4b0
        try clear c8
        try clear c8b0
        try clear c9
        try clear c11
        try clear c13
        try clear c15
        try clear c32
        try clear c33
        try clear c34
        try clear c35
        try clear hcz11_0
        try clear hcz11_1
        try clear hcz11_2
        try clear hcz11_3
        try clear hcz22_0
        try clear hcz22_1
        try clear hcz22_2
        try clear hcz22_3
        try clear hcz30_0
        try clear hcz30_1
        try clear hcz30_2
        try clear hcz30_3
        try clear hfz11_0
        try clear hfz11_1
        try clear hfz11_2
        try clear hfz11_3
        try clear hfz22_0
        try clear hfz22_1
        try clear hfz22_2
        try clear hfz22_3
        try clear hfz30_0
        try clear hfz30_1
        try clear hfz30_2
        try clear hfz30_3
        obtain ⟨kq, x51_18, rfl, HA, HJ18, HO_6, HO_8, HO_9, BK628, HB⟩ := hcut
        cases kq with
        | zero => exact absurd HA.out (by simp [laws_FnExactPutEntry.j0])
        | succ kj18 =>
          have H := HA.out
          clear HA
          simp only [laws_FnExactPutEntry.j0] at H
          by_cases c42 : x51_18 = true
          · subst c42
            have H1 : (some false) = some r := by rw [if_pos rfl] at H; exact H
            clear H
            have H := H1
            clear H1
            obtain rfl := Option.some.inj H
            go_wp2
            go_ret
            exact ⟨by first | rfl | (simp [errW_none, errW_some] <;> rfl) | (simp [*, errW_none, errW_some] <;> rfl), by repeat (first | (with_reducible first | exact HB.out | apply below_alloc | apply pw_below_drewN | apply below_drew1 | refine below_set ?_ GE628.out) | exact HB.out)⟩
          · replace c42 := Bool.eq_false_iff.mpr c42
            subst c42
            have H1 : ((laws_toEntryS.f kj18 l0).bind fun t654 => ((laws_eqEntryS.f kj18 t642 t654).bind fun t657 => (if t657 = true then ((laws_markEntryS.f kj18 t642 1).bind fun bt658 => (if bt658.1 < 0 then (laws_FnExactPutEntry.j1 kj18 l0 t638 t641 t649 true a1_0 a1_1 a1_2 a1_3) else ((laws_eqEntryS.f kj18 t649 t638).bind fun t660 => (if t660 = true then (laws_FnExactPutEntry.j1 kj18 l0 t638 t641 t649 (t652 != t641) a1_0 a1_1 a1_2 a1_3) else (laws_FnExactPutEntry.j1 kj18 l0 t638 t641 t649 true a1_0 a1_1 a1_2 a1_3))))) else (some false)))) = some r := by rw [if_neg (show ¬ (false = true) by decide)] at H; exact H
            clear H
            have H := H1
            clear H1
            replace H := Option.bind_eq_some_iff.mp H
            obtain ⟨t654, A430, H⟩ := H
            replace H : ((laws_eqEntryS.f kj18 t642 t654).bind fun t657 => (if t657 = true then ((laws_markEntryS.f kj18 t642 1).bind fun bt658 => (if bt658.1 < 0 then (laws_FnExactPutEntry.j1 kj18 l0 t638 t641 t649 true a1_0 a1_1 a1_2 a1_3) else ((laws_eqEntryS.f kj18 t649 t638).bind fun t660 => (if t660 = true then (laws_FnExactPutEntry.j1 kj18 l0 t638 t641 t649 (t652 != t641) a1_0 a1_1 a1_2 a1_3) else (laws_FnExactPutEntry.j1 kj18 l0 t638 t641 t649 true a1_0 a1_1 a1_2 a1_3))))) else (some false))) = some r := H
            have A43 := Aside0.mk A430
            clear A430
            replace H := Option.bind_eq_some_iff.mp H
            obtain ⟨t657, A440, H⟩ := H
            replace H : (if t657 = true then ((laws_markEntryS.f kj18 t642 1).bind fun bt658 => (if bt658.1 < 0 then (laws_FnExactPutEntry.j1 kj18 l0 t638 t641 t649 true a1_0 a1_1 a1_2 a1_3) else ((laws_eqEntryS.f kj18 t649 t638).bind fun t660 => (if t660 = true then (laws_FnExactPutEntry.j1 kj18 l0 t638 t641 t649 (t652 != t641) a1_0 a1_1 a1_2 a1_3) else (laws_FnExactPutEntry.j1 kj18 l0 t638 t641 t649 true a1_0 a1_1 a1_2 a1_3))))) else (some false)) = some r := H
            have A44 := Aside0.mk A440
            clear A440
            by_cases c45 : t657 = true
            · subst c45
              have H1 : ((laws_markEntryS.f kj18 t642 1).bind fun bt658 => (if bt658.1 < 0 then (laws_FnExactPutEntry.j1 kj18 l0 t638 t641 t649 true a1_0 a1_1 a1_2 a1_3) else ((laws_eqEntryS.f kj18 t649 t638).bind fun t660 => (if t660 = true then (laws_FnExactPutEntry.j1 kj18 l0 t638 t641 t649 (t652 != t641) a1_0 a1_1 a1_2 a1_3) else (laws_FnExactPutEntry.j1 kj18 l0 t638 t641 t649 true a1_0 a1_1 a1_2 a1_3))))) = some r := by rw [if_pos rfl] at H; exact H
              clear H
              have H := H1
              clear H1
              replace H := Option.bind_eq_some_iff.mp H
              obtain ⟨⟨t658, t659⟩, A460, H⟩ := H
              replace H : (if t658 < 0 then (laws_FnExactPutEntry.j1 kj18 l0 t638 t641 t649 true a1_0 a1_1 a1_2 a1_3) else ((laws_eqEntryS.f kj18 t649 t638).bind fun t660 => (if t660 = true then (laws_FnExactPutEntry.j1 kj18 l0 t638 t641 t649 (t652 != t641) a1_0 a1_1 a1_2 a1_3) else (laws_FnExactPutEntry.j1 kj18 l0 t638 t641 t649 true a1_0 a1_1 a1_2 a1_3)))) = some r := H
              have A46 := Aside0.mk A460
              clear A460
              have HC47 := Aside0.mk H
              clear H
              go_upto_region 17 with (first | ((with_reducible refine gate_callee (f := 13) rfl ?_); refine goesL_ (some 54) rfl rfl Tryd.func13 (by kernel_rfl) rfl #[.slice A0 l0.length c0] rfl (by (try simp only [List.map_toArray, List.map_cons, List.map_nil]); first | done | rfl | (simp only [List.length_drop, List.length_take]; rfl)) ?_; (with_reducible refine (laws_toEntryS.calls kj18 _ _ l0 t654 _ ?side1 ?side2 A43.out).mono ?_); (case side1 => repeat (first | exact (Kd.C_below HR0.out HB.out) | (with_reducible refine Kd.C_alloc ?_ _) | (with_reducible refine Kd.C_drewN ?_ _) | (with_reducible refine Kd.C_drew ?_))); (case side2 => exact HC0.out); rintro e w48 ⟨v655, rfl, ho0, hb⟩; refine ⟨_, rfl, ?_⟩; have n0_ := Aside0.mk (Kd.R_elder' (by (with_reducible repeat (first | apply Kd.R_alloc | apply Kd.R_drewN | apply Kd.R_drew)); exact HO_6.out) (Kd.R_base ho0) hb); have n1_ := Aside0.mk (Kd.R_elder' (by (with_reducible repeat (first | apply Kd.R_alloc | apply Kd.R_drewN | apply Kd.R_drew)); exact HO_8.out) (Kd.R_base ho0) hb); have n2_ := Aside0.mk (Kd.R_elder' (by (with_reducible repeat (first | apply Kd.R_alloc | apply Kd.R_drewN | apply Kd.R_drew)); exact HO_9.out) (Kd.R_base ho0) hb); have n3_ := Aside0.mk (Kd.R_lower (Kd.R_new' (Kd.R_new' (Kd.R_new' ho0 (Kd.R_lt (by (with_reducible repeat (first | apply Kd.R_alloc | apply Kd.R_drewN | apply Kd.R_drew)); exact HO_6.out))) (Kd.R_lt (by (with_reducible repeat (first | apply Kd.R_alloc | apply Kd.R_drewN | apply Kd.R_drew)); exact HO_8.out))) (Kd.R_lt (by (with_reducible repeat (first | apply Kd.R_alloc | apply Kd.R_drewN | apply Kd.R_drew)); exact HO_9.out))) (below_size (by repeat (first | (with_reducible first | exact HB.out | apply below_alloc | apply pw_below_drewN | apply below_drew1 | refine below_set ?_ GE628.out) | exact HB.out)))); have n4_ := Aside0.mk (blk_below (g := gb628) (o := .cells #[.string a1_0, .int .i64 a1_1, .string a1_2, .bool a1_3] 44 (0, 0)) (by (with_reducible repeat (first | refine blk_drewN ?_ _ | refine blk_drew ?_ | refine blk_alloc ?_ _)); exact BK628.out) hb); have n5_ := Aside0.mk (below_step (by repeat (first | (with_reducible first | exact HB.out | apply below_alloc | apply pw_below_drewN | apply below_drew1 | refine below_set ?_ GE628.out) | exact HB.out)) hb); clear HO_6; clear HO_8; clear HO_9; clear BK628; clear HB; have HO_6 := n0_; have HO_8 := n1_; have HO_9 := n2_; have HO656 := n3_; have BK628 := n4_; have HB := n5_; clear n0_ n1_ n2_ n3_ n4_ n5_; (try clear hb); (try clear hb2); (try clear hk); (try clear hi); (try clear ho0); obtain ⟨Ao49, co49, eo49⟩ := Kd.R_slice HO656.out; subst eo49) | ((with_reducible refine gate_callee (f := 15) rfl ?_); refine goesL_ (some 55) rfl rfl Tryd.func15 (by kernel_rfl) rfl #[.slice Ao32 t642.length co32, .slice Ao49 t654.length co49] rfl (by (try simp only [List.map_toArray, List.map_cons, List.map_nil]); first | done | rfl | (simp only [List.length_drop, List.length_take]; rfl)) ?_; (with_reducible refine (laws_eqEntryS.calls kj18 _ _ t642 _ _ t654 true _ ?side1 ?side2 ?side3 ?side4 A44.out).mono ?_); (case side1 => repeat (first | exact (Kd.R_reads' HO_8.out).2.2 | (with_reducible refine Kd.C_alloc ?_ _) | (with_reducible refine Kd.C_drewN ?_ _) | (with_reducible refine Kd.C_drew ?_))); (case side2 => exact (Kd.R_reads' HO_8.out).2.1); (case side3 => repeat (first | exact (Kd.R_reads' HO656.out).2.2 | (with_reducible refine Kd.C_alloc ?_ _) | (with_reducible refine Kd.C_drewN ?_ _) | (with_reducible refine Kd.C_drew ?_))); (case side4 => exact (Kd.R_reads' HO656.out).2.1); rintro e w50 ⟨rfl, hb⟩; refine ⟨_, rfl, ?_⟩; have n0_ := Aside0.mk (Kd.R_below (by (with_reducible repeat (first | apply Kd.R_alloc | apply Kd.R_drewN | apply Kd.R_drew)); exact HO_6.out) hb); have n1_ := Aside0.mk (Kd.R_below (by (with_reducible repeat (first | apply Kd.R_alloc | apply Kd.R_drewN | apply Kd.R_drew)); exact HO_8.out) hb); have n2_ := Aside0.mk (Kd.R_below (by (with_reducible repeat (first | apply Kd.R_alloc | apply Kd.R_drewN | apply Kd.R_drew)); exact HO_9.out) hb); have n3_ := Aside0.mk (Kd.R_below (by (with_reducible repeat (first | apply Kd.R_alloc | apply Kd.R_drewN | apply Kd.R_drew)); exact HO656.out) hb); have n4_ := Aside0.mk (blk_below (g := gb628) (o := .cells #[.string a1_0, .int .i64 a1_1, .string a1_2, .bool a1_3] 44 (0, 0)) (by (with_reducible repeat (first | refine blk_drewN ?_ _ | refine blk_drew ?_ | refine blk_alloc ?_ _)); exact BK628.out) hb); have n5_ := Aside0.mk (below_step (by repeat (first | (with_reducible first | exact HB.out | apply below_alloc | apply pw_below_drewN | apply below_drew1 | refine below_set ?_ GE628.out) | exact HB.out)) hb); clear HO_6; clear HO_8; clear HO_9; clear HO656; clear BK628; clear HB; have HO_6 := n0_; have HO_8 := n1_; have HO_9 := n2_; have HO656 := n3_; have BK628 := n4_; have HB := n5_; clear n0_ n1_ n2_ n3_ n4_ n5_; (try clear hb); (try clear hb2); (try clear hk); (try clear hi)) | ((with_reducible refine gate_callee (f := 19) rfl ?_); refine goesL_ (some 59) rfl rfl Tryd.func19 (by kernel_rfl) rfl #[.slice Ao32 t642.length co32, .int .i64 1] rfl (by (try simp only [List.map_toArray, List.map_cons, List.map_nil]); first | done | rfl | (simp only [List.length_drop, List.length_take]; rfl)) ?_; (with_reducible refine (laws_markEntryS.calls kj18 (fun k_ => some k_ = (.slice Ao32 t642.length co32 : Value).ownBlock) (.slice Ao32 t642.length co32) t642 1 t658 t659 w _ ?side1 ?side2 A46.out).mono ?_); (case side1 => repeat (first | (with_reducible first | exact HB.out | apply below_alloc | apply pw_below_drewN | apply below_drew1 | refine below_set ?_ GE628.out) | exact HB.out)); (case side2 => exact Kd.R_tight rfl HO_8.out); rintro e w51 ⟨rfl, hy0, hb, hkp⟩; refine ⟨_, rfl, ?_⟩; have n0_ := Aside0.mk (Kd.R_mono (ok' := fun k_ => some k_ ≠ (.slice Ao32 t642.length co32 : Value).ownBlock ∧ some k_ ≠ (v650 : Value).ownBlock ∧ some k_ ≠ (.slice Ao49 t654.length co49 : Value).ownBlock) (Kd.R_keptB (HO_6.out) hkp (fun k_ hk_ hs_ => (hk_.1.1) hs_)) (fun k_ hk_ => ⟨hk_.1.1.1, hk_.1.1.2, hk_.1.2⟩)); have n1_ := Aside0.mk (Kd.R_reok rfl hy0 (fun k_ e_ => HO_8.out.1 k_ e_)); have n2_ := Aside0.mk (Kd.R_mono (ok' := fun k_ => some k_ ≠ (v639 : Value).ownBlock ∧ some k_ ≠ (.slice Ao32 t642.length co32 : Value).ownBlock ∧ some k_ ≠ (.slice Ao49 t654.length co49 : Value).ownBlock) (Kd.R_keptB (HO_9.out) hkp (fun k_ hk_ hs_ => (hk_.1.2) hs_)) (fun k_ hk_ => ⟨hk_.1.1.1, hk_.1.1.2, hk_.1.2⟩)); have n3_ := Aside0.mk (blk_kept (by (with_reducible repeat (first | refine blk_drewN ?_ _ | refine blk_drew ?_ | refine blk_alloc ?_ _)); exact BK628.out) hkp (fun hs_ => (fun e_ => (Kd.R_ne HO_8.out BK628.out (by decide)) e_) hs_)); have n4_ := Aside0.mk (Kd.R_mono (ok' := fun k_ => some k_ ≠ (v639 : Value).ownBlock ∧ some k_ ≠ (.slice Ao32 t642.length co32 : Value).ownBlock ∧ some k_ ≠ (v650 : Value).ownBlock) (Kd.R_keptB (HO656.out) hkp (fun k_ hk_ hs_ => (hk_.1.2) hs_)) (fun k_ hk_ => ⟨hk_.1.1.1.2, hk_.1.1.2, hk_.1.2⟩)); have n5_ := Aside0.mk (hb); clear HO_6; clear HO_8; clear HO_9; clear BK628; clear HO656; clear HB; have HO_6 := n0_; have HO_8 := n1_; have HO_9 := n2_; have BK628 := n3_; have HO656 := n4_; have HB := n5_; clear n0_ n1_ n2_ n3_ n4_ n5_; (try clear hb); (try clear hkp); (try clear hy0)))
              (try simp only [Act.put, List.setIfInBounds_toArray, List.set_cons_zero, List.set_cons_succ])
              go_cut [72] (fun v72 wc => ∃ (kq : Nat) (x72_46 : Bool), v72 = .bool x72_46 ∧ Aside0 (laws_FnExactPutEntry.j1 kq l0 t638 t641 t649 x72_46 a1_0 a1_1 a1_2 a1_3 = some r) ∧ Aside0 (kq ≤ kj18) ∧ Aside0 (Kd.R k47 47 wc w.heap.size (fun k_ => some k_ ≠ (v650 : Value).ownBlock) v639 t638) ∧ Aside0 (Kd.R k47 47 wc w.heap.size (fun k_ => some k_ ≠ (v639 : Value).ownBlock) v650 t649) ∧ Aside0 (wc.heap[gb628]? = some (.cells #[.string a1_0, .int .i64 a1_1, .string a1_2, .bool a1_3] 44 (0, 0))) ∧ Aside0 (Below w.heap.size w wc))
              case first =>
                have H := HC47.out
                clear HC47
                by_cases c52 : t658 < 0
                · rw [if_pos c52] at H
                  have c52b0 : decide (t658 < 0) = true := decide_eq_true c52
                  clear c52
                  (first | rw [c52b0] | (simp only [i64_w, i32_w]; rw [c52b0]) | skip)
                  have H' := Aside0.mk H
                  clear H
                  go_wp2
                  go_meet
                  case rel => exact ⟨_, (true), (by first | rfl | (simp; done) | (simp [*]; done)), H', ⟨by have := HJ18.out; first | omega | exact Nat.le_refl _⟩, ⟨by (with_reducible repeat (first | apply Kd.R_alloc | apply Kd.R_drewN | apply Kd.R_drew)); exact Kd.R_mono HO_6.out (fun _ hk => hk.2.1)⟩, ⟨by (with_reducible repeat (first | apply Kd.R_alloc | apply Kd.R_drewN | apply Kd.R_drew)); exact Kd.R_mono HO_9.out (fun _ hk => hk.1)⟩, ⟨by (with_reducible repeat (first | refine blk_drewN ?_ _ | refine blk_drew ?_ | refine blk_alloc ?_ _)); exact BK628.out⟩, ⟨by repeat (first | (with_reducible first | exact HB.out | apply below_alloc | apply pw_below_drewN | apply below_drew1 | refine below_set ?_ GE628.out) | exact HB.out)⟩⟩
                · rw [if_neg c52] at H
                  have c52b0 : decide (t658 < 0) = false := decide_eq_false c52
                  clear c52
                  (first | rw [c52b0] | (simp only [i64_w, i32_w]; rw [c52b0]) | skip)
                  replace H := Option.bind_eq_some_iff.mp H
                  obtain ⟨t660, A530, H⟩ := H
                  replace H : (if t660 = true then (laws_FnExactPutEntry.j1 kj18 l0 t638 t641 t649 (t652 != t641) a1_0 a1_1 a1_2 a1_3) else (laws_FnExactPutEntry.j1 kj18 l0 t638 t641 t649 true a1_0 a1_1 a1_2 a1_3)) = some r := H
                  have A53 := Aside0.mk A530
                  clear A530
                  by_cases c54 : t660 = true
                  · subst c54
                    have H1 : (laws_FnExactPutEntry.j1 kj18 l0 t638 t641 t649 (t652 != t641) a1_0 a1_1 a1_2 a1_3) = some r := by rw [if_pos rfl] at H; exact H
                    clear H
                    have H := H1
                    clear H1
                    have H' := Aside0.mk H
                    clear H
                    obtain ⟨Ao55, co55, eo55⟩ := Kd.R_slice HO_9.out
                    subst eo55
                    obtain ⟨Ao56, co56, eo56⟩ := Kd.R_slice HO_6.out
                    subst eo56
                    go_wp2_with (first | (go_at_call 15; (with_reducible refine (laws_eqEntryS.calls kj18 _ _ t649 _ _ t638 true _ ?side1 ?side2 ?side3 ?side4 A53.out).mono ?_); (case side1 => repeat (first | exact (Kd.R_reads' HO_9.out).2.2 | (with_reducible refine Kd.C_alloc ?_ _) | (with_reducible refine Kd.C_drewN ?_ _) | (with_reducible refine Kd.C_drew ?_))); (case side2 => exact (Kd.R_reads' HO_9.out).2.1); (case side3 => repeat (first | exact (Kd.R_reads' HO_6.out).2.2 | (with_reducible refine Kd.C_alloc ?_ _) | (with_reducible refine Kd.C_drewN ?_ _) | (with_reducible refine Kd.C_drew ?_))); (case side4 => exact (Kd.R_reads' HO_6.out).2.1); rintro e w57 ⟨rfl, hb⟩; have n0_ := Aside0.mk (Kd.R_below (by (with_reducible repeat (first | apply Kd.R_alloc | apply Kd.R_drewN | apply Kd.R_drew)); exact HO_6.out) hb); have n1_ := Aside0.mk (Kd.R_below (by (with_reducible repeat (first | apply Kd.R_alloc | apply Kd.R_drewN | apply Kd.R_drew)); exact HO_8.out) hb); have n2_ := Aside0.mk (Kd.R_below (by (with_reducible repeat (first | apply Kd.R_alloc | apply Kd.R_drewN | apply Kd.R_drew)); exact HO_9.out) hb); have n3_ := Aside0.mk (Kd.R_below (by (with_reducible repeat (first | apply Kd.R_alloc | apply Kd.R_drewN | apply Kd.R_drew)); exact HO656.out) hb); have n4_ := Aside0.mk (blk_below (g := gb628) (o := .cells #[.string a1_0, .int .i64 a1_1, .string a1_2, .bool a1_3] 44 (0, 0)) (by (with_reducible repeat (first | refine blk_drewN ?_ _ | refine blk_drew ?_ | refine blk_alloc ?_ _)); exact BK628.out) hb); have n5_ := Aside0.mk (below_step (by repeat (first | (with_reducible first | exact HB.out | apply below_alloc | apply pw_below_drewN | apply below_drew1 | refine below_set ?_ GE628.out) | exact HB.out)) hb); clear HO_6; clear HO_8; clear HO_9; clear HO656; clear BK628; clear HB; have HO_6 := n0_; have HO_8 := n1_; have HO_9 := n2_; have HO656 := n3_; have BK628 := n4_; have HB := n5_; clear n0_ n1_ n2_ n3_ n4_ n5_; (try clear hb); (try clear hb2); (try clear hk); (try clear hi)))
                    go_meet
                    case rel => exact ⟨_, ((t652 != t641)), (by first | rfl | (simp; done) | (simp [*]; done)), H', ⟨by have := HJ18.out; first | omega | exact Nat.le_refl _⟩, ⟨by (with_reducible repeat (first | apply Kd.R_alloc | apply Kd.R_drewN | apply Kd.R_drew)); exact Kd.R_mono HO_6.out (fun _ hk => hk.2.1)⟩, ⟨by (with_reducible repeat (first | apply Kd.R_alloc | apply Kd.R_drewN | apply Kd.R_drew)); exact Kd.R_mono HO_9.out (fun _ hk => hk.1)⟩, ⟨by (with_reducible repeat (first | refine blk_drewN ?_ _ | refine blk_drew ?_ | refine blk_alloc ?_ _)); exact BK628.out⟩, ⟨by repeat (first | (with_reducible first | exact HB.out | apply below_alloc | apply pw_below_drewN | apply below_drew1 | refine below_set ?_ GE628.out) | exact HB.out)⟩⟩
                  · replace c54 := Bool.eq_false_iff.mpr c54
                    subst c54
                    have H1 : (laws_FnExactPutEntry.j1 kj18 l0 t638 t641 t649 true a1_0 a1_1 a1_2 a1_3) = some r := by rw [if_neg (show ¬ (false = true) by decide)] at H; exact H
                    clear H
                    have H := H1
                    clear H1
                    have H' := Aside0.mk H
                    clear H
                    obtain ⟨Ao58, co58, eo58⟩ := Kd.R_slice HO_9.out
                    subst eo58
                    obtain ⟨Ao59, co59, eo59⟩ := Kd.R_slice HO_6.out
                    subst eo59
                    go_wp2_with (first | (go_at_call 15; (with_reducible refine (laws_eqEntryS.calls kj18 _ _ t649 _ _ t638 false _ ?side1 ?side2 ?side3 ?side4 A53.out).mono ?_); (case side1 => repeat (first | exact (Kd.R_reads' HO_9.out).2.2 | (with_reducible refine Kd.C_alloc ?_ _) | (with_reducible refine Kd.C_drewN ?_ _) | (with_reducible refine Kd.C_drew ?_))); (case side2 => exact (Kd.R_reads' HO_9.out).2.1); (case side3 => repeat (first | exact (Kd.R_reads' HO_6.out).2.2 | (with_reducible refine Kd.C_alloc ?_ _) | (with_reducible refine Kd.C_drewN ?_ _) | (with_reducible refine Kd.C_drew ?_))); (case side4 => exact (Kd.R_reads' HO_6.out).2.1); rintro e w60 ⟨rfl, hb⟩; have n0_ := Aside0.mk (Kd.R_below (by (with_reducible repeat (first | apply Kd.R_alloc | apply Kd.R_drewN | apply Kd.R_drew)); exact HO_6.out) hb); have n1_ := Aside0.mk (Kd.R_below (by (with_reducible repeat (first | apply Kd.R_alloc | apply Kd.R_drewN | apply Kd.R_drew)); exact HO_8.out) hb); have n2_ := Aside0.mk (Kd.R_below (by (with_reducible repeat (first | apply Kd.R_alloc | apply Kd.R_drewN | apply Kd.R_drew)); exact HO_9.out) hb); have n3_ := Aside0.mk (Kd.R_below (by (with_reducible repeat (first | apply Kd.R_alloc | apply Kd.R_drewN | apply Kd.R_drew)); exact HO656.out) hb); have n4_ := Aside0.mk (blk_below (g := gb628) (o := .cells #[.string a1_0, .int .i64 a1_1, .string a1_2, .bool a1_3] 44 (0, 0)) (by (with_reducible repeat (first | refine blk_drewN ?_ _ | refine blk_drew ?_ | refine blk_alloc ?_ _)); exact BK628.out) hb); have n5_ := Aside0.mk (below_step (by repeat (first | (with_reducible first | exact HB.out | apply below_alloc | apply pw_below_drewN | apply below_drew1 | refine below_set ?_ GE628.out) | exact HB.out)) hb); clear HO_6; clear HO_8; clear HO_9; clear HO656; clear BK628; clear HB; have HO_6 := n0_; have HO_8 := n1_; have HO_9 := n2_; have HO656 := n3_; have BK628 := n4_; have HB := n5_; clear n0_ n1_ n2_ n3_ n4_ n5_; (try clear hb); (try clear hb2); (try clear hk); (try clear hi)))
                    go_meet
                    case rel => exact ⟨_, (true), (by first | rfl | (simp; done) | (simp [*]; done)), H', ⟨by have := HJ18.out; first | omega | exact Nat.le_refl _⟩, ⟨by (with_reducible repeat (first | apply Kd.R_alloc | apply Kd.R_drewN | apply Kd.R_drew)); exact Kd.R_mono HO_6.out (fun _ hk => hk.2.1)⟩, ⟨by (with_reducible repeat (first | apply Kd.R_alloc | apply Kd.R_drewN | apply Kd.R_drew)); exact Kd.R_mono HO_9.out (fun _ hk => hk.1)⟩, ⟨by (with_reducible repeat (first | refine blk_drewN ?_ _ | refine blk_drew ?_ | refine blk_alloc ?_ _)); exact BK628.out⟩, ⟨by repeat (first | (with_reducible first | exact HB.out | apply below_alloc | apply pw_below_drewN | apply below_drew1 | refine below_set ?_ GE628.out) | exact HB.out)⟩⟩
              case rest =>
                clear HC47
                try clear c1
                try clear p2
                try clear c3
                try clear c4
                try clear c4b0
                try clear c5
                try clear c8
                try clear c8b0
                try clear c9
                try clear c11
                try clear c13
                try clear c15
                try clear c19
                try clear c32
                try clear c33
                try clear c34
                try clear c35
                try clear c42
                try clear c45
                try clear c52
                try clear c52b0
                try clear c54
                try clear hcz11_0
                try clear hcz11_1
                try clear hcz11_2
                try clear hcz11_3
                try clear hcz22_0
                try clear hcz22_1
                try clear hcz22_2
                try clear hcz22_3
                try clear hcz30_0
                try clear hcz30_1
                try clear hcz30_2
                try clear hcz30_3
                try clear hfz11_0
                try clear hfz11_1
                try clear hfz11_2
                try clear hfz11_3
                try clear hfz22_0
                try clear hfz22_1
                try clear hfz22_2
                try clear hfz22_3
                try clear hfz30_0
                try clear hfz30_1
                try clear hfz30_2
                try clear hfz30_3
                try clear p2
                obtain ⟨kq, x72_46, rfl, HA, HJ46, HO_6, HO_9, BK628, HB⟩ := hcut
                cases kq with
                | zero => exact absurd HA.out (by simp [laws_FnExactPutEntry.j1])
                | succ kj46 =>
                  have H := HA.out
                  clear HA
                  simp only [laws_FnExactPutEntry.j1] at H
                  by_cases c61 : x72_46 = true
                  · subst c61
                    have H1 : (some false) = some r := by rw [if_pos rfl] at H; exact H
                    clear H
                    have H := H1
                    clear H1
                    obtain rfl := Option.some.inj H
                    go_wp2
                    go_ret
                    exact ⟨by first | rfl | (simp [errW_none, errW_some] <;> rfl) | (simp [*, errW_none, errW_some] <;> rfl), by repeat (first | (with_reducible first | exact HB.out | apply below_alloc | apply pw_below_drewN | apply below_drew1 | refine below_set ?_ GE628.out) | exact HB.out)⟩
                  · replace c61 := Bool.eq_false_iff.mpr c61
                    subst c61
                    have H1 : ((laws_markEntryS.f kj46 t649 1).bind fun bt661 => ((laws_heldEntryS.f kj46 bt661.2 1).bind fun t663 => (if t663 < 0 then (some false) else (if t663 = bt661.1 then ((laws_toEntryS.f kj46 l0).bind fun t664 => ((laws_toEntry.f a1_0 a1_1 a1_2 a1_3).bind fun bt667 => ((impl_PutEntry.f kj46 t664 bt667.1 bt667.2.1 bt667.2.2.1 bt667.2.2.2).bind fun bt671 => ((laws_eqEntryS.f kj46 bt671.1 t638).bind fun t675 => (if t675 = true then (laws_FnExactPutEntry.j2 kj46 bt661.2 bt661.1 (bt671.2 != t641)) else (laws_FnExactPutEntry.j2 kj46 bt661.2 bt661.1 true)))))) else (some false))))) = some r := by rw [if_neg (show ¬ (false = true) by decide)] at H; exact H
                    clear H
                    have H := H1
                    clear H1
                    replace H := Option.bind_eq_some_iff.mp H
                    obtain ⟨⟨t661, t662⟩, A620, H⟩ := H
                    replace H : ((laws_heldEntryS.f kj46 t662 1).bind fun t663 => (if t663 < 0 then (some false) else (if t663 = t661 then ((laws_toEntryS.f kj46 l0).bind fun t664 => ((laws_toEntry.f a1_0 a1_1 a1_2 a1_3).bind fun bt667 => ((impl_PutEntry.f kj46 t664 bt667.1 bt667.2.1 bt667.2.2.1 bt667.2.2.2).bind fun bt671 => ((laws_eqEntryS.f kj46 bt671.1 t638).bind fun t675 => (if t675 = true then (laws_FnExactPutEntry.j2 kj46 t662 t661 (bt671.2 != t641)) else (laws_FnExactPutEntry.j2 kj46 t662 t661 true)))))) else (some false)))) = some r := H
                    have A62 := Aside0.mk A620
                    clear A620
                    replace H := Option.bind_eq_some_iff.mp H
                    obtain ⟨t663, A630, H⟩ := H
                    replace H : (if t663 < 0 then (some false) else (if t663 = t661 then ((laws_toEntryS.f kj46 l0).bind fun t664 => ((laws_toEntry.f a1_0 a1_1 a1_2 a1_3).bind fun bt667 => ((impl_PutEntry.f kj46 t664 bt667.1 bt667.2.1 bt667.2.2.1 bt667.2.2.2).bind fun bt671 => ((laws_eqEntryS.f kj46 bt671.1 t638).bind fun t675 => (if t675 = true then (laws_FnExactPutEntry.j2 kj46 t662 t661 (bt671.2 != t641)) else (laws_FnExactPutEntry.j2 kj46 t662 t661 true)))))) else (some false))) = some r := H
                    have A63 := Aside0.mk A630
                    clear A630
                    by_cases c64 : t663 < 0
                    · rw [if_pos c64] at H
                      have c64b0 : decide (t663 < 0) = true := decide_eq_true c64
                      clear c64
                      obtain rfl := Option.some.inj H
                      obtain ⟨Ao65, co65, eo65⟩ := Kd.R_slice HO_9.out
                      subst eo65
                      go_wp2_with (first | ((with_reducible refine gate_callee (f := 19) rfl ?_); refine goesL_ (some 75) rfl rfl Tryd.func19 (by kernel_rfl) rfl #[.slice Ao65 t649.length co65, .int .i64 1] rfl (by (try simp only [List.map_toArray, List.map_cons, List.map_nil]); first | done | rfl | (simp only [List.length_drop, List.length_take]; rfl)) ?_; (with_reducible refine (laws_markEntryS.calls kj46 (fun k_ => some k_ = (.slice Ao65 t649.length co65 : Value).ownBlock) (.slice Ao65 t649.length co65) t649 1 t661 t662 w _ ?side1 ?side2 A62.out).mono ?_); (case side1 => repeat (first | (with_reducible first | exact HB.out | apply below_alloc | apply pw_below_drewN | apply below_drew1 | refine below_set ?_ GE628.out) | exact HB.out)); (case side2 => exact Kd.R_tight rfl HO_9.out); rintro e w66 ⟨rfl, hy0, hb, hkp⟩; refine ⟨_, rfl, ?_⟩; have n0_ := Aside0.mk (Kd.R_mono (ok' := fun k_ => some k_ ≠ (.slice Ao65 t649.length co65 : Value).ownBlock) (Kd.R_keptB (HO_6.out) hkp (fun k_ hk_ hs_ => (hk_) hs_)) (fun k_ hk_ => hk_.1)); have n1_ := Aside0.mk (Kd.R_reok rfl hy0 (fun k_ e_ => HO_9.out.1 k_ e_)); have n2_ := Aside0.mk (blk_kept (by (with_reducible repeat (first | refine blk_drewN ?_ _ | refine blk_drew ?_ | refine blk_alloc ?_ _)); exact BK628.out) hkp (fun hs_ => (fun e_ => (Kd.R_ne HO_9.out BK628.out (by decide)) e_) hs_)); have n3_ := Aside0.mk (hb); clear HO_6; clear HO_9; clear BK628; clear HB; have HO_6 := n0_; have HO_9 := n1_; have BK628 := n2_; have HB := n3_; clear n0_ n1_ n2_ n3_; (try clear hb); (try clear hkp); (try clear hy0)) | ((with_reducible refine gate_callee (f := 24) rfl ?_); refine goesL_ (some 78) rfl rfl Tryd.func24 (by kernel_rfl) rfl #[.slice Ao65 t662.length co65, .int .i64 1] rfl (by (try simp only [List.map_toArray, List.map_cons, List.map_nil]); first | done | (rw [show t662.length = t649.length from (Kd.R_reads' HO_9.out).1.symm] <;> rfl) | rfl | (simp only [List.length_drop, List.length_take]; rfl)) ?_; (with_reducible refine (laws_heldEntryS.calls kj46 _ _ t662 1 t663 _ ?side1 ?side2 A63.out).mono ?_); (case side1 => repeat (first | exact (Kd.R_reads' HO_9.out).2.2 | (with_reducible refine Kd.C_alloc ?_ _) | (with_reducible refine Kd.C_drewN ?_ _) | (with_reducible refine Kd.C_drew ?_))); (case side2 => rw [show t662.length = t649.length from (Kd.R_reads' HO_9.out).1.symm]; exact (Kd.R_reads' HO_9.out).2.1); rintro e w67 ⟨rfl, hb⟩; refine ⟨_, rfl, ?_⟩; have n0_ := Aside0.mk (Kd.R_below (by (with_reducible repeat (first | apply Kd.R_alloc | apply Kd.R_drewN | apply Kd.R_drew)); exact HO_6.out) hb); have n1_ := Aside0.mk (Kd.R_below (by (with_reducible repeat (first | apply Kd.R_alloc | apply Kd.R_drewN | apply Kd.R_drew)); exact HO_9.out) hb); have n2_ := Aside0.mk (blk_below (g := gb628) (o := .cells #[.string a1_0, .int .i64 a1_1, .string a1_2, .bool a1_3] 44 (0, 0)) (by (with_reducible repeat (first | refine blk_drewN ?_ _ | refine blk_drew ?_ | refine blk_alloc ?_ _)); exact BK628.out) hb); have n3_ := Aside0.mk (below_step (by repeat (first | (with_reducible first | exact HB.out | apply below_alloc | apply pw_below_drewN | apply below_drew1 | refine below_set ?_ GE628.out) | exact HB.out)) hb); clear HO_6; clear HO_9; clear BK628; clear HB; have HO_6 := n0_; have HO_9 := n1_; have BK628 := n2_; have HB := n3_; clear n0_ n1_ n2_ n3_; (try clear hb); (try clear hb2); (try clear hk); (try clear hi)))
                      go_ret
                      exact ⟨by first | rfl | (simp [errW_none, errW_some] <;> rfl) | (simp [*, errW_none, errW_some] <;> rfl), by repeat (first | (with_reducible first | exact HB.out | apply below_alloc | apply pw_below_drewN | apply below_drew1 | refine below_set ?_ GE628.out) | exact HB.out)⟩
                    · rw [if_neg c64] at H
                      have c64b0 : decide (t663 < 0) = false := decide_eq_false c64
                      clear c64
                      by_cases c68 : t663 = t661
                      · rw [if_pos c68] at H
                        have c68b0 : (t663 == t661) = true := beq_iff_eq.mpr c68
                        have c68b1 : (t663 != t661) = false := bne_eq_false_iff_eq.mpr c68
                        clear c68
                        replace H := Option.bind_eq_some_iff.mp H
                        obtain ⟨t664, A690, H⟩ := H
                        replace H : ((laws_toEntry.f a1_0 a1_1 a1_2 a1_3).bind fun bt667 => ((impl_PutEntry.f kj46 t664 bt667.1 bt667.2.1 bt667.2.2.1 bt667.2.2.2).bind fun bt671 => ((laws_eqEntryS.f kj46 bt671.1 t638).bind fun t675 => (if t675 = true then (laws_FnExactPutEntry.j2 kj46 t662 t661 (bt671.2 != t641)) else (laws_FnExactPutEntry.j2 kj46 t662 t661 true))))) = some r := H
                        have A69 := Aside0.mk A690
                        clear A690
                        replace H := Option.bind_eq_some_iff.mp H
                        obtain ⟨⟨t667, t668, t669, t670⟩, A700, H⟩ := H
                        replace H : ((impl_PutEntry.f kj46 t664 t667 t668 t669 t670).bind fun bt671 => ((laws_eqEntryS.f kj46 bt671.1 t638).bind fun t675 => (if t675 = true then (laws_FnExactPutEntry.j2 kj46 t662 t661 (bt671.2 != t641)) else (laws_FnExactPutEntry.j2 kj46 t662 t661 true)))) = some r := H
                        have A70 := Aside0.mk A700
                        clear A700
                        replace H := Option.bind_eq_some_iff.mp H
                        obtain ⟨⟨t671, t674⟩, A710, H⟩ := H
                        replace H : ((laws_eqEntryS.f kj46 t671 t638).bind fun t675 => (if t675 = true then (laws_FnExactPutEntry.j2 kj46 t662 t661 (t674 != t641)) else (laws_FnExactPutEntry.j2 kj46 t662 t661 true))) = some r := H
                        have A71 := Aside0.mk A710
                        clear A710
                        have HC72 := Aside0.mk H
                        clear H
                        obtain ⟨Ao73, co73, eo73⟩ := Kd.R_slice HO_9.out
                        subst eo73
                        try go_wp2_with (first | ((with_reducible refine gate_callee (f := 19) rfl ?_); refine goesL_ (some 75) rfl rfl Tryd.func19 (by kernel_rfl) rfl #[.slice Ao73 t649.length co73, .int .i64 1] rfl (by (try simp only [List.map_toArray, List.map_cons, List.map_nil]); first | done | rfl | (simp only [List.length_drop, List.length_take]; rfl)) ?_; (with_reducible refine (laws_markEntryS.calls kj46 (fun k_ => some k_ = (.slice Ao73 t649.length co73 : Value).ownBlock) (.slice Ao73 t649.length co73) t649 1 t661 t662 w _ ?side1 ?side2 A62.out).mono ?_); (case side1 => repeat (first | (with_reducible first | exact HB.out | apply below_alloc | apply pw_below_drewN | apply below_drew1 | refine below_set ?_ GE628.out) | exact HB.out)); (case side2 => exact Kd.R_tight rfl HO_9.out); rintro e w74 ⟨rfl, hy0, hb, hkp⟩; refine ⟨_, rfl, ?_⟩; have n0_ := Aside0.mk (Kd.R_mono (ok' := fun k_ => some k_ ≠ (.slice Ao73 t649.length co73 : Value).ownBlock) (Kd.R_keptB (HO_6.out) hkp (fun k_ hk_ hs_ => (hk_) hs_)) (fun k_ hk_ => hk_.1)); have n1_ := Aside0.mk (Kd.R_reok rfl hy0 (fun k_ e_ => HO_9.out.1 k_ e_)); have n2_ := Aside0.mk (blk_kept (by (with_reducible repeat (first | refine blk_drewN ?_ _ | refine blk_drew ?_ | refine blk_alloc ?_ _)); exact BK628.out) hkp (fun hs_ => (fun e_ => (Kd.R_ne HO_9.out BK628.out (by decide)) e_) hs_)); have n3_ := Aside0.mk (hb); clear HO_6; clear HO_9; clear BK628; clear HB; have HO_6 := n0_; have HO_9 := n1_; have BK628 := n2_; have HB := n3_; clear n0_ n1_ n2_ n3_; (try clear hb); (try clear hkp); (try clear hy0)) | ((with_reducible refine gate_callee (f := 24) rfl ?_); refine goesL_ (some 78) rfl rfl Tryd.func24 (by kernel_rfl) rfl #[.slice Ao73 t662.length co73, .int .i64 1] rfl (by (try simp only [List.map_toArray, List.map_cons, List.map_nil]); first | done | (rw [show t662.length = t649.length from (Kd.R_reads' HO_9.out).1.symm] <;> rfl) | rfl | (simp only [List.length_drop, List.length_take]; rfl)) ?_; (with_reducible refine (laws_heldEntryS.calls kj46 _ _ t662 1 t663 _ ?side1 ?side2 A63.out).mono ?_); (case side1 => repeat (first | exact (Kd.R_reads' HO_9.out).2.2 | (with_reducible refine Kd.C_alloc ?_ _) | (with_reducible refine Kd.C_drewN ?_ _) | (with_reducible refine Kd.C_drew ?_))); (case side2 => rw [show t662.length = t649.length from (Kd.R_reads' HO_9.out).1.symm]; exact (Kd.R_reads' HO_9.out).2.1); rintro e w75 ⟨rfl, hb⟩; refine ⟨_, rfl, ?_⟩; have n0_ := Aside0.mk (Kd.R_below (by (with_reducible repeat (first | apply Kd.R_alloc | apply Kd.R_drewN | apply Kd.R_drew)); exact HO_6.out) hb); have n1_ := Aside0.mk (Kd.R_below (by (with_reducible repeat (first | apply Kd.R_alloc | apply Kd.R_drewN | apply Kd.R_drew)); exact HO_9.out) hb); have n2_ := Aside0.mk (blk_below (g := gb628) (o := .cells #[.string a1_0, .int .i64 a1_1, .string a1_2, .bool a1_3] 44 (0, 0)) (by (with_reducible repeat (first | refine blk_drewN ?_ _ | refine blk_drew ?_ | refine blk_alloc ?_ _)); exact BK628.out) hb); have n3_ := Aside0.mk (below_step (by repeat (first | (with_reducible first | exact HB.out | apply below_alloc | apply pw_below_drewN | apply below_drew1 | refine below_set ?_ GE628.out) | exact HB.out)) hb); clear HO_6; clear HO_9; clear BK628; clear HB; have HO_6 := n0_; have HO_9 := n1_; have BK628 := n2_; have HB := n3_; clear n0_ n1_ n2_ n3_; (try clear hb); (try clear hb2); (try clear hk); (try clear hi)))
                        have n0_ := Aside0.mk (Kd.R_drew HO_6.out)
                        have n1_ := Aside0.mk (Kd.R_drew HO_9.out)
                        have n2_ := Aside0.mk (blk_drew BK628.out)
                        have n3_ := Aside0.mk (below_drew1 HB.out)
                        clear HO_6
                        clear HO_9
                        clear BK628
                        clear HB
                        have HO_6 := n0_
                        have HO_9 := n1_
                        have BK628 := n2_
                        have HB := n3_
                        clear n0_ n1_ n2_ n3_
                        refine start_ (n := 10) (S := fun w' => w'.cell? ⟨gb628, 0, none⟩ = some (.string a1_0) ∧ w'.cell? ⟨gb628, 1, none⟩ = some (.int .i64 a1_1) ∧ w'.cell? ⟨gb628, 2, none⟩ = some (.string a1_2) ∧ w'.cell? ⟨gb628, 3, none⟩ = some (.bool a1_3)) (ds := []) #[false, false, false, false, false, false, false, false, false, false] (by kernel_rfl) rfl rfl ⟨(blk_cell BK628.out 0).trans rfl, (blk_cell BK628.out 1).trans rfl, (blk_cell BK628.out 2).trans rfl, (blk_cell BK628.out 3).trans rfl⟩ (fun hHeld => ?_); refine with_tabW laws_FnExactPutEntry.tab27 laws_FnExactPutEntry.bits27 (fun HT_ HW_ => ?_)
                        generalize w75.drew = w76 at HO_6 HO_9 BK628 HB hHeld ⊢
                        refine pure_ (i := 0) (N := some 85) (v := ?_) (a' := ?_) #[true, false, false, false, false, false, false, false, false, false] rfl rfl (any_of HT_.out (by kernel_rfl)) (fun _ _ _ h => h) (Or.inl ⟨by rfl, ?_⟩) ?_ ?_
                        rotate_left
                        · intro w'
                          go_simp
                          with_reducible rfl
                        rotate_left
                        · simp only [Act.put, List.setIfInBounds_toArray, List.set_cons_zero, List.set_cons_succ, i64_w, i32_w]
                          rfl
                        refine take_ (i := 2) (N := some 87) (v := ?_) (a' := ?_) #[true, false, true, false, false, false, false, false, false, false] rfl rfl (take_ofW HT_.out HW_.out (by kernel_rfl)) (fun _ _ _ h => h) (Or.inl ⟨by rfl, ?_⟩) hHeld ?_ ?_
                        rotate_left
                        · rintro w' ⟨s0, s1, s2, s3⟩
                          go_simp
                          with_reducible rfl
                        rotate_left
                        · simp only [Act.put, List.setIfInBounds_toArray, List.set_cons_zero, List.set_cons_succ, i64_w, i32_w]
                          rfl
                        refine one_ (i := 1) (N := some 86) #[true, true, true, false, false, false, false, false, false, false] rfl rfl (one_of HT_.out (by kernel_rfl)) (by decide) (fun K hK => ?_)
                        refine goes_ Tryd.func13 (by kernel_rfl) rfl #[.slice A0 l0.length c0] (by rfl) rfl rfl (by (try simp only [List.map_toArray, List.map_cons, List.map_nil]); first | done | rfl | (simp only [List.length_drop, List.length_take]; rfl)) ?_
                        with_reducible refine (laws_toEntryS.calls kj46 _ _ l0 t664 _ ?side1 ?side2 A69.out).mono ?_
                        (case side1 => repeat (first | exact (Kd.C_below HR0.out HB.out) | (with_reducible refine Kd.C_alloc ?_ _) | (with_reducible refine Kd.C_drewN ?_ _) | (with_reducible refine Kd.C_drew ?_)))
                        (case side2 => exact HC0.out)
                        rintro e w77 ⟨v665, rfl, ho0, hb⟩
                        refine ⟨_, rfl, ?_⟩
                        have n0_ := Aside0.mk (Kd.R_elder' (by (with_reducible repeat (first | apply Kd.R_alloc | apply Kd.R_drewN | apply Kd.R_drew)); exact HO_6.out) (Kd.R_base ho0) hb)
                        have n1_ := Aside0.mk (Kd.R_elder' (by (with_reducible repeat (first | apply Kd.R_alloc | apply Kd.R_drewN | apply Kd.R_drew)); exact HO_9.out) (Kd.R_base ho0) hb)
                        have n2_ := Aside0.mk (Kd.R_lower (Kd.R_new' (Kd.R_new' ho0 (Kd.R_lt (by (with_reducible repeat (first | apply Kd.R_alloc | apply Kd.R_drewN | apply Kd.R_drew)); exact HO_6.out))) (Kd.R_lt (by (with_reducible repeat (first | apply Kd.R_alloc | apply Kd.R_drewN | apply Kd.R_drew)); exact HO_9.out))) (below_size (by repeat (first | (with_reducible first | exact HB.out | apply below_alloc | apply pw_below_drewN | apply below_drew1 | refine below_set ?_ GE628.out) | exact HB.out))))
                        have n3_ := Aside0.mk (blk_below (g := gb628) (o := .cells #[.string a1_0, .int .i64 a1_1, .string a1_2, .bool a1_3] 44 (0, 0)) (by (with_reducible repeat (first | refine blk_drewN ?_ _ | refine blk_drew ?_ | refine blk_alloc ?_ _)); exact BK628.out) hb)
                        have n4_ := Aside0.mk (below_step (by repeat (first | (with_reducible first | exact HB.out | apply below_alloc | apply pw_below_drewN | apply below_drew1 | refine below_set ?_ GE628.out) | exact HB.out)) hb)
                        clear HO_6
                        clear HO_9
                        clear BK628
                        clear HB
                        have HO_6 := n0_
                        have HO_9 := n1_
                        have HO666 := n2_
                        have BK628 := n3_
                        have HB := n4_
                        clear n0_ n1_ n2_ n3_ n4_
                        (try clear hb)
                        (try clear hb2)
                        (try clear hk)
                        (try clear hi)
                        (try clear ho0)
                        refine hK.out _ _ ⟨(blk_cell BK628.out 0).trans rfl, (blk_cell BK628.out 1).trans rfl, (blk_cell BK628.out 2).trans rfl, (blk_cell BK628.out 3).trans rfl⟩ (fun hHeld => ?_)
                        clear hK K
                        refine norm_ (a' := ?_) ?_ ?_
                        rotate_left
                        · show Act.put _ (some 86) _ = _
                          simp only [Act.put, List.setIfInBounds_toArray, List.set_cons_zero, List.set_cons_succ, i64_w, i32_w]
                          rfl
                        refine one_ (i := 3) (N := some 88) #[true, true, true, true, false, false, false, false, false, false] rfl rfl (one_of HT_.out (by kernel_rfl)) (by decide) (fun K hK => ?_)
                        refine goes_ Tryd.func34 (by kernel_rfl) rfl #[.agg #[.string a1_0, .int .i64 a1_1, .string a1_2, .bool a1_3]] (by rfl) rfl rfl (by (try simp only [List.map_toArray, List.map_cons, List.map_nil]); first | done | rfl | (simp only [List.length_drop, List.length_take]; rfl)) ?_
                        with_reducible refine (laws_toEntry.calls a1_0 a1_1 a1_2 a1_3 t667 t668 t669 t670 _ A70.out).mono ?_
                        rintro e w78 ⟨rfl, hb⟩
                        refine ⟨_, rfl, ?_⟩
                        have n0_ := Aside0.mk (Kd.R_below (by (with_reducible repeat (first | apply Kd.R_alloc | apply Kd.R_drewN | apply Kd.R_drew)); exact HO_6.out) hb)
                        have n1_ := Aside0.mk (Kd.R_below (by (with_reducible repeat (first | apply Kd.R_alloc | apply Kd.R_drewN | apply Kd.R_drew)); exact HO_9.out) hb)
                        have n2_ := Aside0.mk (Kd.R_below (by (with_reducible repeat (first | apply Kd.R_alloc | apply Kd.R_drewN | apply Kd.R_drew)); exact HO666.out) hb)
                        have n3_ := Aside0.mk (blk_below (g := gb628) (o := .cells #[.string a1_0, .int .i64 a1_1, .string a1_2, .bool a1_3] 44 (0, 0)) (by (with_reducible repeat (first | refine blk_drewN ?_ _ | refine blk_drew ?_ | refine blk_alloc ?_ _)); exact BK628.out) hb)
                        have n4_ := Aside0.mk (below_step (by repeat (first | (with_reducible first | exact HB.out | apply below_alloc | apply pw_below_drewN | apply below_drew1 | refine below_set ?_ GE628.out) | exact HB.out)) hb)
                        clear HO_6
                        clear HO_9
                        clear HO666
                        clear BK628
                        clear HB
                        have HO_6 := n0_
                        have HO_9 := n1_
                        have HO666 := n2_
                        have BK628 := n3_
                        have HB := n4_
                        clear n0_ n1_ n2_ n3_ n4_
                        (try clear hb)
                        (try clear hb2)
                        (try clear hk)
                        (try clear hi)
                        obtain ⟨Ao79, co79, eo79⟩ := Kd.R_slice HO666.out
                        (first | subst eo79 | (injection eo79 with f1_ f2_ f3_; have f4_ := f1_.symm; have f5_ := f3_.symm; clear f1_ f2_ f3_; subst f4_; subst f5_))
                        refine hK.out _ _ ⟨(blk_cell BK628.out 0).trans rfl, (blk_cell BK628.out 1).trans rfl, (blk_cell BK628.out 2).trans rfl, (blk_cell BK628.out 3).trans rfl⟩ (fun hHeld => ?_)
                        clear hK K
                        refine norm_ (a' := ?_) ?_ ?_
                        rotate_left
                        · show Act.put _ (some 88) _ = _
                          simp only [Act.put, List.setIfInBounds_toArray, List.set_cons_zero, List.set_cons_succ, i64_w, i32_w]
                          rfl
                        refine one_ (i := 4) (N := some 89) #[true, true, true, true, true, false, false, false, false, false] rfl rfl (one_of HT_.out (by kernel_rfl)) (by decide) (fun K hK => ?_)
                        refine goes_ Tryd.func35 (by kernel_rfl) rfl #[.slice Ao79 t664.length co79, .agg #[.string t667, .int .i64 t668, .string t669, .bool t670]] (by rfl) rfl rfl (by (try simp only [List.map_toArray, List.map_cons, List.map_nil]); first | done | rfl | (simp only [List.length_drop, List.length_take]; rfl)) ?_
                        with_reducible refine (impl_PutEntry.calls kj46 _ _ t664 t667 t668 t669 t670 t671 t674 _ ?side1 ?side2 ?side3 A71.out).mono ?_
                        (case side1 => refine EnvW.below HE.out ?_; repeat (first | (with_reducible first | exact HB.out | apply below_alloc | apply pw_below_drewN | apply below_drew1 | refine below_set ?_ GE628.out) | exact HB.out))
                        (case side2 => repeat (first | exact (Kd.R_reads' HO666.out).2.2 | (with_reducible refine Kd.C_alloc ?_ _) | (with_reducible refine Kd.C_drewN ?_ _) | (with_reducible refine Kd.C_drew ?_)))
                        (case side3 => exact (Kd.R_reads' HO666.out).2.1)
                        rintro e w80 ⟨v672, rfl, ho0, hb⟩
                        refine ⟨_, rfl, ?_⟩
                        have n0_ := Aside0.mk (Kd.R_elder' (by (with_reducible repeat (first | apply Kd.R_alloc | apply Kd.R_drewN | apply Kd.R_drew)); exact HO_6.out) (Kd.R_base ho0) hb)
                        have n1_ := Aside0.mk (Kd.R_elder' (by (with_reducible repeat (first | apply Kd.R_alloc | apply Kd.R_drewN | apply Kd.R_drew)); exact HO_9.out) (Kd.R_base ho0) hb)
                        have n2_ := Aside0.mk (Kd.R_elder' (by (with_reducible repeat (first | apply Kd.R_alloc | apply Kd.R_drewN | apply Kd.R_drew)); exact HO666.out) (Kd.R_base ho0) hb)
                        have n3_ := Aside0.mk (Kd.R_lower (Kd.R_new' (Kd.R_new' (Kd.R_new' ho0 (Kd.R_lt (by (with_reducible repeat (first | apply Kd.R_alloc | apply Kd.R_drewN | apply Kd.R_drew)); exact HO_6.out))) (Kd.R_lt (by (with_reducible repeat (first | apply Kd.R_alloc | apply Kd.R_drewN | apply Kd.R_drew)); exact HO_9.out))) (Kd.R_lt (by (with_reducible repeat (first | apply Kd.R_alloc | apply Kd.R_drewN | apply Kd.R_drew)); exact HO666.out))) (below_size (by repeat (first | (with_reducible first | exact HB.out | apply below_alloc | apply pw_below_drewN | apply below_drew1 | refine below_set ?_ GE628.out) | exact HB.out))))
                        have n4_ := Aside0.mk (blk_below (g := gb628) (o := .cells #[.string a1_0, .int .i64 a1_1, .string a1_2, .bool a1_3] 44 (0, 0)) (by (with_reducible repeat (first | refine blk_drewN ?_ _ | refine blk_drew ?_ | refine blk_alloc ?_ _)); exact BK628.out) hb)
                        have n5_ := Aside0.mk (below_step (by repeat (first | (with_reducible first | exact HB.out | apply below_alloc | apply pw_below_drewN | apply below_drew1 | refine below_set ?_ GE628.out) | exact HB.out)) hb)
                        clear HO_6
                        clear HO_9
                        clear HO666
                        clear BK628
                        clear HB
                        have HO_6 := n0_
                        have HO_9 := n1_
                        have HO666 := n2_
                        have HO673 := n3_
                        have BK628 := n4_
                        have HB := n5_
                        clear n0_ n1_ n2_ n3_ n4_ n5_
                        (try clear hb)
                        (try clear hb2)
                        (try clear hk)
                        (try clear hi)
                        (try clear ho0)
                        refine hK.out _ _ ⟨(blk_cell BK628.out 0).trans rfl, (blk_cell BK628.out 1).trans rfl, (blk_cell BK628.out 2).trans rfl, (blk_cell BK628.out 3).trans rfl⟩ (fun hHeld => ?_)
                        clear hK K
                        refine norm_ (a' := ?_) ?_ ?_
                        rotate_left
                        · show Act.put _ (some 89) _ = _
                          simp only [Act.put, List.setIfInBounds_toArray, List.set_cons_zero, List.set_cons_succ, i64_w, i32_w]
                          rfl
                        refine pure_ (i := 5) (N := some 84) (v := ?_) (a' := ?_) #[true, true, true, true, true, true, false, false, false, false] rfl rfl (any_of HT_.out (by kernel_rfl)) (fun _ _ _ h => h) (Or.inl ⟨by rfl, ?_⟩) ?_ ?_
                        rotate_left
                        · intro w'
                          go_simp
                          with_reducible rfl
                        rotate_left
                        · simp only [Act.put, List.setIfInBounds_toArray, List.set_cons_zero, List.set_cons_succ, i64_w, i32_w]
                          rfl
                        refine pure_ (i := 6) (N := some 90) (v := ?_) (a' := ?_) #[true, true, true, true, true, true, true, false, false, false] rfl rfl (any_of HT_.out (by kernel_rfl)) (fun _ _ _ h => h) (Or.inl ⟨by rfl, ?_⟩) ?_ ?_
                        rotate_left
                        · intro w'
                          go_simp
                          with_reducible rfl
                        rotate_left
                        · simp only [Act.put, List.setIfInBounds_toArray, List.set_cons_zero, List.set_cons_succ, i64_w, i32_w]
                          rfl
                        refine pure_ (i := 7) (N := some 91) (v := ?_) (a' := ?_) #[true, true, true, true, true, true, true, true, false, false] rfl rfl (any_of HT_.out (by kernel_rfl)) (fun _ _ _ h => h) (Or.inl ⟨by rfl, ?_⟩) ?_ ?_
                        rotate_left
                        · intro w'
                          go_simp
                          with_reducible rfl
                        rotate_left
                        · simp only [Act.put, List.setIfInBounds_toArray, List.set_cons_zero, List.set_cons_succ, i64_w, i32_w]
                          rfl
                        refine pure_ (i := 8) (N := some 14) (v := ?_) (a' := ?_) #[true, true, true, true, true, true, true, true, true, false] rfl rfl (any_of HT_.out (by kernel_rfl)) (fun _ _ _ h => h) (Or.inl ⟨by rfl, ?_⟩) ?_ ?_
                        rotate_left
                        · intro w'
                          go_simp
                          with_reducible rfl
                        rotate_left
                        · simp only [Act.put, List.setIfInBounds_toArray, List.set_cons_zero, List.set_cons_succ, i64_w, i32_w]
                          rfl
                        refine pure_ (i := 9) (N := some 15) (v := ?_) (a' := ?_) #[true, true, true, true, true, true, true, true, true, true] rfl rfl (any_of HT_.out (by kernel_rfl)) (fun _ _ _ h => h) (Or.inl ⟨by rfl, ?_⟩) ?_ ?_
                        rotate_left
                        · intro w'
                          go_simp
                          with_reducible rfl
                        rotate_left
                        · simp only [Act.put, List.setIfInBounds_toArray, List.set_cons_zero, List.set_cons_succ, i64_w, i32_w]
                          rfl
                        refine done_ (done_of HT_.out (by kernel_rfl)) ?_
                        go_upto_region 28 with (fail)
                        go_cut [100] (fun v100 wc => ∃ (kq : Nat) (x100_71 : Bool), v100 = .bool x100_71 ∧ Aside0 (laws_FnExactPutEntry.j2 kq t662 t661 x100_71 = some r) ∧ Aside0 (kq ≤ kj46) ∧ Aside0 (Kd.R k47 47 wc w.heap.size (fun _ => True) (.slice Ao73 t649.length co73) t662) ∧ Aside0 (wc.heap[gb628]? = some (.cells #[.string a1_0, .int .i64 a1_1, .string a1_2, .bool a1_3] 44 (0, 0))) ∧ Aside0 (Below w.heap.size w wc))
                        case first =>
                          have H := HC72.out
                          clear HC72
                          replace H := Option.bind_eq_some_iff.mp H
                          obtain ⟨t675, A810, H⟩ := H
                          replace H : (if t675 = true then (laws_FnExactPutEntry.j2 kj46 t662 t661 (t674 != t641)) else (laws_FnExactPutEntry.j2 kj46 t662 t661 true)) = some r := H
                          have A81 := Aside0.mk A810
                          clear A810
                          by_cases c82 : t675 = true
                          · subst c82
                            have H1 : (laws_FnExactPutEntry.j2 kj46 t662 t661 (t674 != t641)) = some r := by rw [if_pos rfl] at H; exact H
                            clear H
                            have H := H1
                            clear H1
                            have H' := Aside0.mk H
                            clear H
                            obtain ⟨Ao83, co83, eo83⟩ := Kd.R_slice HO673.out
                            subst eo83
                            obtain ⟨Ao84, co84, eo84⟩ := Kd.R_slice HO_6.out
                            subst eo84
                            go_wp2_with (first | ((with_reducible refine gate_callee (f := 15) rfl ?_); refine goesL_ (some 94) rfl rfl Tryd.func15 (by kernel_rfl) rfl #[.slice Ao83 t671.length co83, .slice Ao84 t638.length co84] rfl (by (try simp only [List.map_toArray, List.map_cons, List.map_nil]); first | done | rfl | (simp only [List.length_drop, List.length_take]; rfl)) ?_; (with_reducible refine (laws_eqEntryS.calls kj46 _ _ t671 _ _ t638 true _ ?side1 ?side2 ?side3 ?side4 A81.out).mono ?_); (case side1 => repeat (first | exact (Kd.R_reads' HO673.out).2.2 | (with_reducible refine Kd.C_alloc ?_ _) | (with_reducible refine Kd.C_drewN ?_ _) | (with_reducible refine Kd.C_drew ?_))); (case side2 => exact (Kd.R_reads' HO673.out).2.1); (case side3 => repeat (first | exact (Kd.R_reads' HO_6.out).2.2 | (with_reducible refine Kd.C_alloc ?_ _) | (with_reducible refine Kd.C_drewN ?_ _) | (with_reducible refine Kd.C_drew ?_))); (case side4 => exact (Kd.R_reads' HO_6.out).2.1); rintro e w85 ⟨rfl, hb⟩; refine ⟨_, rfl, ?_⟩; have n0_ := Aside0.mk (Kd.R_below (by (with_reducible repeat (first | apply Kd.R_alloc | apply Kd.R_drewN | apply Kd.R_drew)); exact HO_6.out) hb); have n1_ := Aside0.mk (Kd.R_below (by (with_reducible repeat (first | apply Kd.R_alloc | apply Kd.R_drewN | apply Kd.R_drew)); exact HO_9.out) hb); have n2_ := Aside0.mk (Kd.R_below (by (with_reducible repeat (first | apply Kd.R_alloc | apply Kd.R_drewN | apply Kd.R_drew)); exact HO666.out) hb); have n3_ := Aside0.mk (Kd.R_below (by (with_reducible repeat (first | apply Kd.R_alloc | apply Kd.R_drewN | apply Kd.R_drew)); exact HO673.out) hb); have n4_ := Aside0.mk (blk_below (g := gb628) (o := .cells #[.string a1_0, .int .i64 a1_1, .string a1_2, .bool a1_3] 44 (0, 0)) (by (with_reducible repeat (first | refine blk_drewN ?_ _ | refine blk_drew ?_ | refine blk_alloc ?_ _)); exact BK628.out) hb); have n5_ := Aside0.mk (below_step (by repeat (first | (with_reducible first | exact HB.out | apply below_alloc | apply pw_below_drewN | apply below_drew1 | refine below_set ?_ GE628.out) | exact HB.out)) hb); clear HO_6; clear HO_9; clear HO666; clear HO673; clear BK628; clear HB; have HO_6 := n0_; have HO_9 := n1_; have HO666 := n2_; have HO673 := n3_; have BK628 := n4_; have HB := n5_; clear n0_ n1_ n2_ n3_ n4_ n5_; (try clear hb); (try clear hb2); (try clear hk); (try clear hi)))
                            go_meet
                            case rel => exact ⟨_, ((t674 != t641)), (by first | rfl | (simp; done) | (simp [*]; done)), H', ⟨by have := HJ18.out; have := HJ46.out; first | omega | exact Nat.le_refl _⟩, ⟨by (with_reducible repeat (first | apply Kd.R_alloc | apply Kd.R_drewN | apply Kd.R_drew)); exact Kd.R_mono HO_9.out (fun _ hk => trivial)⟩, ⟨by (with_reducible repeat (first | refine blk_drewN ?_ _ | refine blk_drew ?_ | refine blk_alloc ?_ _)); exact BK628.out⟩, ⟨by repeat (first | (with_reducible first | exact HB.out | apply below_alloc | apply pw_below_drewN | apply below_drew1 | refine below_set ?_ GE628.out) | exact HB.out)⟩⟩
                          · replace c82 := Bool.eq_false_iff.mpr c82
                            subst c82
                            have H1 : (laws_FnExactPutEntry.j2 kj46 t662 t661 true) = some r := by rw [if_neg (show ¬ (false = true) by decide)] at H; exact H
                            clear H
                            have H := H1
                            clear H1
                            have H' := Aside0.mk H
                            clear H
                            obtain ⟨Ao86, co86, eo86⟩ := Kd.R_slice HO673.out
                            subst eo86
                            obtain ⟨Ao87, co87, eo87⟩ := Kd.R_slice HO_6.out
                            subst eo87
                            go_wp2_with (first | ((with_reducible refine gate_callee (f := 15) rfl ?_); refine goesL_ (some 94) rfl rfl Tryd.func15 (by kernel_rfl) rfl #[.slice Ao86 t671.length co86, .slice Ao87 t638.length co87] rfl (by (try simp only [List.map_toArray, List.map_cons, List.map_nil]); first | done | rfl | (simp only [List.length_drop, List.length_take]; rfl)) ?_; (with_reducible refine (laws_eqEntryS.calls kj46 _ _ t671 _ _ t638 false _ ?side1 ?side2 ?side3 ?side4 A81.out).mono ?_); (case side1 => repeat (first | exact (Kd.R_reads' HO673.out).2.2 | (with_reducible refine Kd.C_alloc ?_ _) | (with_reducible refine Kd.C_drewN ?_ _) | (with_reducible refine Kd.C_drew ?_))); (case side2 => exact (Kd.R_reads' HO673.out).2.1); (case side3 => repeat (first | exact (Kd.R_reads' HO_6.out).2.2 | (with_reducible refine Kd.C_alloc ?_ _) | (with_reducible refine Kd.C_drewN ?_ _) | (with_reducible refine Kd.C_drew ?_))); (case side4 => exact (Kd.R_reads' HO_6.out).2.1); rintro e w88 ⟨rfl, hb⟩; refine ⟨_, rfl, ?_⟩; have n0_ := Aside0.mk (Kd.R_below (by (with_reducible repeat (first | apply Kd.R_alloc | apply Kd.R_drewN | apply Kd.R_drew)); exact HO_6.out) hb); have n1_ := Aside0.mk (Kd.R_below (by (with_reducible repeat (first | apply Kd.R_alloc | apply Kd.R_drewN | apply Kd.R_drew)); exact HO_9.out) hb); have n2_ := Aside0.mk (Kd.R_below (by (with_reducible repeat (first | apply Kd.R_alloc | apply Kd.R_drewN | apply Kd.R_drew)); exact HO666.out) hb); have n3_ := Aside0.mk (Kd.R_below (by (with_reducible repeat (first | apply Kd.R_alloc | apply Kd.R_drewN | apply Kd.R_drew)); exact HO673.out) hb); have n4_ := Aside0.mk (blk_below (g := gb628) (o := .cells #[.string a1_0, .int .i64 a1_1, .string a1_2, .bool a1_3] 44 (0, 0)) (by (with_reducible repeat (first | refine blk_drewN ?_ _ | refine blk_drew ?_ | refine blk_alloc ?_ _)); exact BK628.out) hb); have n5_ := Aside0.mk (below_step (by repeat (first | (with_reducible first | exact HB.out | apply below_alloc | apply pw_below_drewN | apply below_drew1 | refine below_set ?_ GE628.out) | exact HB.out)) hb); clear HO_6; clear HO_9; clear HO666; clear HO673; clear BK628; clear HB; have HO_6 := n0_; have HO_9 := n1_; have HO666 := n2_; have HO673 := n3_; have BK628 := n4_; have HB := n5_; clear n0_ n1_ n2_ n3_ n4_ n5_; (try clear hb); (try clear hb2); (try clear hk); (try clear hi)))
                            go_meet
                            case rel => exact ⟨_, (true), (by first | rfl | (simp; done) | (simp [*]; done)), H', ⟨by have := HJ18.out; have := HJ46.out; first | omega | exact Nat.le_refl _⟩, ⟨by (with_reducible repeat (first | apply Kd.R_alloc | apply Kd.R_drewN | apply Kd.R_drew)); exact Kd.R_mono HO_9.out (fun _ hk => trivial)⟩, ⟨by (with_reducible repeat (first | refine blk_drewN ?_ _ | refine blk_drew ?_ | refine blk_alloc ?_ _)); exact BK628.out⟩, ⟨by repeat (first | (with_reducible first | exact HB.out | apply below_alloc | apply pw_below_drewN | apply below_drew1 | refine below_set ?_ GE628.out) | exact HB.out)⟩⟩
                        case rest =>
                          clear HC72
                          try clear c1
                          try clear c2
                          try clear p2
                          try clear c3
                          try clear c4
                          try clear c4b0
                          try clear c5
                          try clear c6
                          try clear c8
                          try clear c8b0
                          try clear c9
                          try clear c11
                          try clear c13
                          try clear c15
                          try clear c19
                          try clear c24
                          try clear c32
                          try clear c33
                          try clear c34
                          try clear c35
                          try clear c42
                          try clear c45
                          try clear c52
                          try clear c52b0
                          try clear c54
                          try clear c61
                          try clear c64
                          try clear c64b0
                          try clear c68
                          try clear c68b0
                          try clear c68b1
                          try clear c82
                          try clear hcz11_0
                          try clear hcz11_1
                          try clear hcz11_2
                          try clear hcz11_3
                          try clear hcz22_0
                          try clear hcz22_1
                          try clear hcz22_2
                          try clear hcz22_3
                          try clear hcz30_0
                          try clear hcz30_1
                          try clear hcz30_2
                          try clear hcz30_3
                          try clear hfz11_0
                          try clear hfz11_1
                          try clear hfz11_2
                          try clear hfz11_3
                          try clear hfz22_0
                          try clear hfz22_1
                          try clear hfz22_2
                          try clear hfz22_3
                          try clear hfz30_0
                          try clear hfz30_1
                          try clear hfz30_2
                          try clear hfz30_3
                          try clear p2
                          obtain ⟨kq, x100_71, rfl, HA, HJ71, HO_9, BK628, HB⟩ := hcut
                          have hl9_71 := (Kd.R_reads' HO_9.out).1
                          rw [hl9_71] at HO_9
                          (try simp only [hl9_71])
                          (try simp only [hl9_71] at BK628)
                          cases kq with
                          | zero => exact absurd HA.out (by simp [laws_FnExactPutEntry.j2])
                          | succ kj71 =>
                            have H := HA.out
                            clear HA
                            simp only [laws_FnExactPutEntry.j2] at H
                            by_cases c89 : x100_71 = true
                            · subst c89
                              have H1 : (some false) = some r := by rw [if_pos rfl] at H; exact H
                              clear H
                              have H := H1
                              clear H1
                              obtain rfl := Option.some.inj H
                              go_wp2
                              go_ret
                              exact ⟨by first | rfl | (simp [errW_none, errW_some] <;> rfl) | (simp [*, errW_none, errW_some] <;> rfl), by repeat (first | (with_reducible first | exact HB.out | apply below_alloc | apply pw_below_drewN | apply below_drew1 | refine below_set ?_ GE628.out) | exact HB.out)⟩
                            · replace c89 := Bool.eq_false_iff.mpr c89
                              subst c89
                              have H1 : ((laws_heldEntryS.f kj71 t662 1).bind fun t676 => (if t676 < 0 then (some false) else (if t676 = t661 then (some true) else (some false)))) = some r := by rw [if_neg (show ¬ (false = true) by decide)] at H; exact H
                              clear H
                              have H := H1
                              clear H1
                              replace H := Option.bind_eq_some_iff.mp H
                              obtain ⟨t676, A900, H⟩ := H
                              replace H : (if t676 < 0 then (some false) else (if t676 = t661 then (some true) else (some false))) = some r := H
                              have A90 := Aside0.mk A900
                              clear A900
                              by_cases c91 : t676 < 0
                              · rw [if_pos c91] at H
                                have c91b0 : decide (t676 < 0) = true := decide_eq_true c91
                                clear c91
                                obtain rfl := Option.some.inj H
                                go_wp2_with (first | ((with_reducible refine gate_callee (f := 24) rfl ?_); refine goesL_ (some 103) rfl rfl Tryd.func24 (by kernel_rfl) rfl #[.slice Ao73 t662.length co73, .int .i64 1] rfl (by (try simp only [List.map_toArray, List.map_cons, List.map_nil]); first | done | rfl | (simp only [List.length_drop, List.length_take]; rfl)) ?_; (with_reducible refine (laws_heldEntryS.calls kj71 _ _ t662 1 t676 _ ?side1 ?side2 A90.out).mono ?_); (case side1 => repeat (first | exact (Kd.R_reads' HO_9.out).2.2 | (with_reducible refine Kd.C_alloc ?_ _) | (with_reducible refine Kd.C_drewN ?_ _) | (with_reducible refine Kd.C_drew ?_))); (case side2 => exact (Kd.R_reads' HO_9.out).2.1); rintro e w92 ⟨rfl, hb⟩; refine ⟨_, rfl, ?_⟩; have n0_ := Aside0.mk (Kd.R_below (by (with_reducible repeat (first | apply Kd.R_alloc | apply Kd.R_drewN | apply Kd.R_drew)); exact HO_9.out) hb); have n1_ := Aside0.mk (blk_below (g := gb628) (o := .cells #[.string a1_0, .int .i64 a1_1, .string a1_2, .bool a1_3] 44 (0, 0)) (by (with_reducible repeat (first | refine blk_drewN ?_ _ | refine blk_drew ?_ | refine blk_alloc ?_ _)); exact BK628.out) hb); have n2_ := Aside0.mk (below_step (by repeat (first | (with_reducible first | exact HB.out | apply below_alloc | apply pw_below_drewN | apply below_drew1 | refine below_set ?_ GE628.out) | exact HB.out)) hb); clear HO_9; clear BK628; clear HB; have HO_9 := n0_; have BK628 := n1_; have HB := n2_; clear n0_ n1_ n2_; (try clear hb); (try clear hb2); (try clear hk); (try clear hi)))
                                go_ret
                                exact ⟨by first | rfl | (simp [errW_none, errW_some] <;> rfl) | (simp [*, errW_none, errW_some] <;> rfl), by repeat (first | (with_reducible first | exact HB.out | apply below_alloc | apply pw_below_drewN | apply below_drew1 | refine below_set ?_ GE628.out) | exact HB.out)⟩
                              · rw [if_neg c91] at H
                                have c91b0 : decide (t676 < 0) = false := decide_eq_false c91
                                clear c91
                                by_cases c93 : t676 = t661
                                · rw [if_pos c93] at H
                                  have c93b0 : (t676 == t661) = true := beq_iff_eq.mpr c93
                                  have c93b1 : (t676 != t661) = false := bne_eq_false_iff_eq.mpr c93
                                  clear c93
                                  obtain rfl := Option.some.inj H
                                  go_wp2_with (first | ((with_reducible refine gate_callee (f := 24) rfl ?_); refine goesL_ (some 103) rfl rfl Tryd.func24 (by kernel_rfl) rfl #[.slice Ao73 t662.length co73, .int .i64 1] rfl (by (try simp only [List.map_toArray, List.map_cons, List.map_nil]); first | done | rfl | (simp only [List.length_drop, List.length_take]; rfl)) ?_; (with_reducible refine (laws_heldEntryS.calls kj71 _ _ t662 1 t676 _ ?side1 ?side2 A90.out).mono ?_); (case side1 => repeat (first | exact (Kd.R_reads' HO_9.out).2.2 | (with_reducible refine Kd.C_alloc ?_ _) | (with_reducible refine Kd.C_drewN ?_ _) | (with_reducible refine Kd.C_drew ?_))); (case side2 => exact (Kd.R_reads' HO_9.out).2.1); rintro e w94 ⟨rfl, hb⟩; refine ⟨_, rfl, ?_⟩; have n0_ := Aside0.mk (Kd.R_below (by (with_reducible repeat (first | apply Kd.R_alloc | apply Kd.R_drewN | apply Kd.R_drew)); exact HO_9.out) hb); have n1_ := Aside0.mk (blk_below (g := gb628) (o := .cells #[.string a1_0, .int .i64 a1_1, .string a1_2, .bool a1_3] 44 (0, 0)) (by (with_reducible repeat (first | refine blk_drewN ?_ _ | refine blk_drew ?_ | refine blk_alloc ?_ _)); exact BK628.out) hb); have n2_ := Aside0.mk (below_step (by repeat (first | (with_reducible first | exact HB.out | apply below_alloc | apply pw_below_drewN | apply below_drew1 | refine below_set ?_ GE628.out) | exact HB.out)) hb); clear HO_9; clear BK628; clear HB; have HO_9 := n0_; have BK628 := n1_; have HB := n2_; clear n0_ n1_ n2_; (try clear hb); (try clear hb2); (try clear hk); (try clear hi)))
                                  go_ret
                                  exact ⟨by first | rfl | (simp [errW_none, errW_some] <;> rfl) | (simp [*, errW_none, errW_some] <;> rfl), by repeat (first | (with_reducible first | exact HB.out | apply below_alloc | apply pw_below_drewN | apply below_drew1 | refine below_set ?_ GE628.out) | exact HB.out)⟩
                                · rw [if_neg c93] at H
                                  have c93b0 : (t676 == t661) = false := beq_eq_false_iff_ne.mpr c93
                                  have c93b1 : (t676 != t661) = true := bne_iff_ne.mpr c93
                                  obtain rfl := Option.some.inj H
                                  go_wp2_with (first | ((with_reducible refine gate_callee (f := 24) rfl ?_); refine goesL_ (some 103) rfl rfl Tryd.func24 (by kernel_rfl) rfl #[.slice Ao73 t662.length co73, .int .i64 1] rfl (by (try simp only [List.map_toArray, List.map_cons, List.map_nil]); first | done | rfl | (simp only [List.length_drop, List.length_take]; rfl)) ?_; (with_reducible refine (laws_heldEntryS.calls kj71 _ _ t662 1 t676 _ ?side1 ?side2 A90.out).mono ?_); (case side1 => repeat (first | exact (Kd.R_reads' HO_9.out).2.2 | (with_reducible refine Kd.C_alloc ?_ _) | (with_reducible refine Kd.C_drewN ?_ _) | (with_reducible refine Kd.C_drew ?_))); (case side2 => exact (Kd.R_reads' HO_9.out).2.1); rintro e w95 ⟨rfl, hb⟩; refine ⟨_, rfl, ?_⟩; have n0_ := Aside0.mk (Kd.R_below (by (with_reducible repeat (first | apply Kd.R_alloc | apply Kd.R_drewN | apply Kd.R_drew)); exact HO_9.out) hb); have n1_ := Aside0.mk (blk_below (g := gb628) (o := .cells #[.string a1_0, .int .i64 a1_1, .string a1_2, .bool a1_3] 44 (0, 0)) (by (with_reducible repeat (first | refine blk_drewN ?_ _ | refine blk_drew ?_ | refine blk_alloc ?_ _)); exact BK628.out) hb); have n2_ := Aside0.mk (below_step (by repeat (first | (with_reducible first | exact HB.out | apply below_alloc | apply pw_below_drewN | apply below_drew1 | refine below_set ?_ GE628.out) | exact HB.out)) hb); clear HO_9; clear BK628; clear HB; have HO_9 := n0_; have BK628 := n1_; have HB := n2_; clear n0_ n1_ n2_; (try clear hb); (try clear hb2); (try clear hk); (try clear hi)))
                                  go_ret
                                  exact ⟨by first | rfl | (simp [errW_none, errW_some] <;> rfl) | (simp [*, errW_none, errW_some] <;> rfl), by repeat (first | (with_reducible first | exact HB.out | apply below_alloc | apply pw_below_drewN | apply below_drew1 | refine below_set ?_ GE628.out) | exact HB.out)⟩
                      · rw [if_neg c68] at H
                        have c68b0 : (t663 == t661) = false := beq_eq_false_iff_ne.mpr c68
                        have c68b1 : (t663 != t661) = true := bne_iff_ne.mpr c68
                        obtain rfl := Option.some.inj H
                        obtain ⟨Ao96, co96, eo96⟩ := Kd.R_slice HO_9.out
                        subst eo96
                        go_wp2_with (first | ((with_reducible refine gate_callee (f := 19) rfl ?_); refine goesL_ (some 75) rfl rfl Tryd.func19 (by kernel_rfl) rfl #[.slice Ao96 t649.length co96, .int .i64 1] rfl (by (try simp only [List.map_toArray, List.map_cons, List.map_nil]); first | done | rfl | (simp only [List.length_drop, List.length_take]; rfl)) ?_; (with_reducible refine (laws_markEntryS.calls kj46 (fun k_ => some k_ = (.slice Ao96 t649.length co96 : Value).ownBlock) (.slice Ao96 t649.length co96) t649 1 t661 t662 w _ ?side1 ?side2 A62.out).mono ?_); (case side1 => repeat (first | (with_reducible first | exact HB.out | apply below_alloc | apply pw_below_drewN | apply below_drew1 | refine below_set ?_ GE628.out) | exact HB.out)); (case side2 => exact Kd.R_tight rfl HO_9.out); rintro e w97 ⟨rfl, hy0, hb, hkp⟩; refine ⟨_, rfl, ?_⟩; have n0_ := Aside0.mk (Kd.R_mono (ok' := fun k_ => some k_ ≠ (.slice Ao96 t649.length co96 : Value).ownBlock) (Kd.R_keptB (HO_6.out) hkp (fun k_ hk_ hs_ => (hk_) hs_)) (fun k_ hk_ => hk_.1)); have n1_ := Aside0.mk (Kd.R_reok rfl hy0 (fun k_ e_ => HO_9.out.1 k_ e_)); have n2_ := Aside0.mk (blk_kept (by (with_reducible repeat (first | refine blk_drewN ?_ _ | refine blk_drew ?_ | refine blk_alloc ?_ _)); exact BK628.out) hkp (fun hs_ => (fun e_ => (Kd.R_ne HO_9.out BK628.out (by decide)) e_) hs_)); have n3_ := Aside0.mk (hb); clear HO_6; clear HO_9; clear BK628; clear HB; have HO_6 := n0_; have HO_9 := n1_; have BK628 := n2_; have HB := n3_; clear n0_ n1_ n2_ n3_; (try clear hb); (try clear hkp); (try clear hy0)) | ((with_reducible refine gate_callee (f := 24) rfl ?_); refine goesL_ (some 78) rfl rfl Tryd.func24 (by kernel_rfl) rfl #[.slice Ao96 t662.length co96, .int .i64 1] rfl (by (try simp only [List.map_toArray, List.map_cons, List.map_nil]); first | done | (rw [show t662.length = t649.length from (Kd.R_reads' HO_9.out).1.symm] <;> rfl) | rfl | (simp only [List.length_drop, List.length_take]; rfl)) ?_; (with_reducible refine (laws_heldEntryS.calls kj46 _ _ t662 1 t663 _ ?side1 ?side2 A63.out).mono ?_); (case side1 => repeat (first | exact (Kd.R_reads' HO_9.out).2.2 | (with_reducible refine Kd.C_alloc ?_ _) | (with_reducible refine Kd.C_drewN ?_ _) | (with_reducible refine Kd.C_drew ?_))); (case side2 => rw [show t662.length = t649.length from (Kd.R_reads' HO_9.out).1.symm]; exact (Kd.R_reads' HO_9.out).2.1); rintro e w98 ⟨rfl, hb⟩; refine ⟨_, rfl, ?_⟩; have n0_ := Aside0.mk (Kd.R_below (by (with_reducible repeat (first | apply Kd.R_alloc | apply Kd.R_drewN | apply Kd.R_drew)); exact HO_6.out) hb); have n1_ := Aside0.mk (Kd.R_below (by (with_reducible repeat (first | apply Kd.R_alloc | apply Kd.R_drewN | apply Kd.R_drew)); exact HO_9.out) hb); have n2_ := Aside0.mk (blk_below (g := gb628) (o := .cells #[.string a1_0, .int .i64 a1_1, .string a1_2, .bool a1_3] 44 (0, 0)) (by (with_reducible repeat (first | refine blk_drewN ?_ _ | refine blk_drew ?_ | refine blk_alloc ?_ _)); exact BK628.out) hb); have n3_ := Aside0.mk (below_step (by repeat (first | (with_reducible first | exact HB.out | apply below_alloc | apply pw_below_drewN | apply below_drew1 | refine below_set ?_ GE628.out) | exact HB.out)) hb); clear HO_6; clear HO_9; clear BK628; clear HB; have HO_6 := n0_; have HO_9 := n1_; have BK628 := n2_; have HB := n3_; clear n0_ n1_ n2_ n3_; (try clear hb); (try clear hb2); (try clear hk); (try clear hi)))
                        go_ret
                        exact ⟨by first | rfl | (simp [errW_none, errW_some] <;> rfl) | (simp [*, errW_none, errW_some] <;> rfl), by repeat (first | (with_reducible first | exact HB.out | apply below_alloc | apply pw_below_drewN | apply below_drew1 | refine below_set ?_ GE628.out) | exact HB.out)⟩
            · replace c45 := Bool.eq_false_iff.mpr c45
              subst c45
              have H1 : (some false) = some r := by rw [if_neg (show ¬ (false = true) by decide)] at H; exact H
              clear H
              have H := H1
              clear H1
              obtain rfl := Option.some.inj H
              go_wp2_with (first | ((with_reducible refine gate_callee (f := 13) rfl ?_); refine goesL_ (some 54) rfl rfl Tryd.func13 (by kernel_rfl) rfl #[.slice A0 l0.length c0] rfl (by (try simp only [List.map_toArray, List.map_cons, List.map_nil]); first | done | rfl | (simp only [List.length_drop, List.length_take]; rfl)) ?_; (with_reducible refine (laws_toEntryS.calls kj18 _ _ l0 t654 _ ?side1 ?side2 A43.out).mono ?_); (case side1 => repeat (first | exact (Kd.C_below HR0.out HB.out) | (with_reducible refine Kd.C_alloc ?_ _) | (with_reducible refine Kd.C_drewN ?_ _) | (with_reducible refine Kd.C_drew ?_))); (case side2 => exact HC0.out); rintro e w99 ⟨v655, rfl, ho0, hb⟩; refine ⟨_, rfl, ?_⟩; have n0_ := Aside0.mk (Kd.R_elder' (by (with_reducible repeat (first | apply Kd.R_alloc | apply Kd.R_drewN | apply Kd.R_drew)); exact HO_6.out) (Kd.R_base ho0) hb); have n1_ := Aside0.mk (Kd.R_elder' (by (with_reducible repeat (first | apply Kd.R_alloc | apply Kd.R_drewN | apply Kd.R_drew)); exact HO_8.out) (Kd.R_base ho0) hb); have n2_ := Aside0.mk (Kd.R_elder' (by (with_reducible repeat (first | apply Kd.R_alloc | apply Kd.R_drewN | apply Kd.R_drew)); exact HO_9.out) (Kd.R_base ho0) hb); have n3_ := Aside0.mk (Kd.R_lower (Kd.R_new' (Kd.R_new' (Kd.R_new' ho0 (Kd.R_lt (by (with_reducible repeat (first | apply Kd.R_alloc | apply Kd.R_drewN | apply Kd.R_drew)); exact HO_6.out))) (Kd.R_lt (by (with_reducible repeat (first | apply Kd.R_alloc | apply Kd.R_drewN | apply Kd.R_drew)); exact HO_8.out))) (Kd.R_lt (by (with_reducible repeat (first | apply Kd.R_alloc | apply Kd.R_drewN | apply Kd.R_drew)); exact HO_9.out))) (below_size (by repeat (first | (with_reducible first | exact HB.out | apply below_alloc | apply pw_below_drewN | apply below_drew1 | refine below_set ?_ GE628.out) | exact HB.out)))); have n4_ := Aside0.mk (blk_below (g := gb628) (o := .cells #[.string a1_0, .int .i64 a1_1, .string a1_2, .bool a1_3] 44 (0, 0)) (by (with_reducible repeat (first | refine blk_drewN ?_ _ | refine blk_drew ?_ | refine blk_alloc ?_ _)); exact BK628.out) hb); have n5_ := Aside0.mk (below_step (by repeat (first | (with_reducible first | exact HB.out | apply below_alloc | apply pw_below_drewN | apply below_drew1 | refine below_set ?_ GE628.out) | exact HB.out)) hb); clear HO_6; clear HO_8; clear HO_9; clear BK628; clear HB; have HO_6 := n0_; have HO_8 := n1_; have HO_9 := n2_; have HO656 := n3_; have BK628 := n4_; have HB := n5_; clear n0_ n1_ n2_ n3_ n4_ n5_; (try clear hb); (try clear hb2); (try clear hk); (try clear hi); (try clear ho0); obtain ⟨Ao100, co100, eo100⟩ := Kd.R_slice HO656.out; subst eo100) | ((with_reducible refine gate_callee (f := 15) rfl ?_); refine goesL_ (some 55) rfl rfl Tryd.func15 (by kernel_rfl) rfl #[.slice Ao32 t642.length co32, .slice Ao100 t654.length co100] rfl (by (try simp only [List.map_toArray, List.map_cons, List.map_nil]); first | done | rfl | (simp only [List.length_drop, List.length_take]; rfl)) ?_; (with_reducible refine (laws_eqEntryS.calls kj18 _ _ t642 _ _ t654 false _ ?side1 ?side2 ?side3 ?side4 A44.out).mono ?_); (case side1 => repeat (first | exact (Kd.R_reads' HO_8.out).2.2 | (with_reducible refine Kd.C_alloc ?_ _) | (with_reducible refine Kd.C_drewN ?_ _) | (with_reducible refine Kd.C_drew ?_))); (case side2 => exact (Kd.R_reads' HO_8.out).2.1); (case side3 => repeat (first | exact (Kd.R_reads' HO656.out).2.2 | (with_reducible refine Kd.C_alloc ?_ _) | (with_reducible refine Kd.C_drewN ?_ _) | (with_reducible refine Kd.C_drew ?_))); (case side4 => exact (Kd.R_reads' HO656.out).2.1); rintro e w101 ⟨rfl, hb⟩; refine ⟨_, rfl, ?_⟩; have n0_ := Aside0.mk (Kd.R_below (by (with_reducible repeat (first | apply Kd.R_alloc | apply Kd.R_drewN | apply Kd.R_drew)); exact HO_6.out) hb); have n1_ := Aside0.mk (Kd.R_below (by (with_reducible repeat (first | apply Kd.R_alloc | apply Kd.R_drewN | apply Kd.R_drew)); exact HO_8.out) hb); have n2_ := Aside0.mk (Kd.R_below (by (with_reducible repeat (first | apply Kd.R_alloc | apply Kd.R_drewN | apply Kd.R_drew)); exact HO_9.out) hb); have n3_ := Aside0.mk (Kd.R_below (by (with_reducible repeat (first | apply Kd.R_alloc | apply Kd.R_drewN | apply Kd.R_drew)); exact HO656.out) hb); have n4_ := Aside0.mk (blk_below (g := gb628) (o := .cells #[.string a1_0, .int .i64 a1_1, .string a1_2, .bool a1_3] 44 (0, 0)) (by (with_reducible repeat (first | refine blk_drewN ?_ _ | refine blk_drew ?_ | refine blk_alloc ?_ _)); exact BK628.out) hb); have n5_ := Aside0.mk (below_step (by repeat (first | (with_reducible first | exact HB.out | apply below_alloc | apply pw_below_drewN | apply below_drew1 | refine below_set ?_ GE628.out) | exact HB.out)) hb); clear HO_6; clear HO_8; clear HO_9; clear HO656; clear BK628; clear HB; have HO_6 := n0_; have HO_8 := n1_; have HO_9 := n2_; have HO656 := n3_; have BK628 := n4_; have HB := n5_; clear n0_ n1_ n2_ n3_ n4_ n5_; (try clear hb); (try clear hb2); (try clear hk); (try clear hi)))
              go_ret
              exact ⟨by first | rfl | (simp [errW_none, errW_some] <;> rfl) | (simp [*, errW_none, errW_some] <;> rfl), by repeat (first | (with_reducible first | exact HB.out | apply below_alloc | apply pw_below_drewN | apply below_drew1 | refine below_set ?_ GE628.out) | exact HB.out)⟩
end Go.Proofs.YtgghefjkkidaoaaDoor.P
end
