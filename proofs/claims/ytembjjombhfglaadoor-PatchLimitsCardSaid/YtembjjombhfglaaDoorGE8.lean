import Derived.Test.YtembjjombhfglaaDoorGE3
import Derived.Lib.AppendZerosOnto
import Derived.Lib.AppendZeros
import Derived.Lib.Overlaps
import Derived.Lib.Walk
import Derived.Laws.Externs
import Derived.Outline
namespace Go.Proofs.YtembjjombhfglaaDoor.G
open Go.RowKit Go.Proofs.YtembjjombhfglaaDoorW.PrintWords Go.Proofs.YtembjjombhfglaaDoorW.PrintLast Go.Proofs.YtembjjombhfglaaDoorW.PrintMore
set_option linter.unusedVariables false
set_option linter.unusedSimpArgs false
section
variable {P : Program}
theorem wp_copy_run2 (w : World) {o : Oper} {a : Act} {K : Act → World → Prop} {Q : Exit → Act → World → Prop} (d s : Operand) (t t' : TypeId)
    (ho : o.op = .call { callee := .builtin .copy, args := #[d, s], argTypes := #[t, t'] }) (v u : Value) (hd : a.eval d = v) (hs : a.eval s = u) {v' : Value} {w' : World}
    (hr : (Builtin.copy_ #[t, t'] o.type #[v, u]).run P w = .ok v' w') (h : K (a.put o.dst v') w') : o.wp P a w K Q := by
  unfold Oper.wp execOp
  simp only [ho, resolve, invoke, builtin, Sem.run_bind, Sem.run_pure, Result.andThen_ok, List.map_toArray, List.map_cons, List.map_nil, hd, hs, hr]
  exact h
theorem wpList_copy_run2 (w : World) {ops : Array Oper} {rest : List Oper} {o : Oper} {a : Act} {Q : Exit → Act → World → Prop} (hgd : o.guard = none) (d s : Operand) (t t' : TypeId)
    (ho : o.op = .call { callee := .builtin .copy, args := #[d, s], argTypes := #[t, t'] }) (v u : Value) (hd : a.eval d = v) (hs : a.eval s = u) {v' : Value} {w' : World}
    (hr : (Builtin.copy_ #[t, t'] o.type #[v, u]).run P w = .ok v' w') (h : wpList P ops Q rest (a.put o.dst v') w') : wpList P ops Q (o :: rest) a w :=
  wpList_plain hgd fun _ hK => wp_copy_run2 w d s t t' ho v u hd hs hr (hK _ _ h)
theorem step_copy_run2 {ops : Array Oper} {o : Oper} {a : Act} {w : World} {K : Act → World → Prop} {Q : Exit → Act → World → Prop} {E : Prop}
    (hg : o.guard = none) (d x : Operand) (dT sT : TypeId) (hop : o.op = Op.call { callee := Callee.builtin Builtin.copy, args := #[d, x], argTypes := #[dT, sT] })
    (v u : Value) (hd : a.eval d = v) (hx : a.eval x = u) {v' : Value} {w' : World} (hr : (Builtin.copy_ #[dT, sT] o.type #[v, u]).run P w = .ok v' w') (hK : K (a.put o.dst v') w') :
    if Region.wanted o (yielded ops a.tmps) = true then Oper.wp P o a w K Q else E := by
  have hw : Region.wanted o (yielded ops a.tmps) = true := by simp [Region.wanted, hg]
  rw [if_pos hw]
  unfold Oper.wp
  simp [execOp, hop, resolve, invoke, builtin, hd, hx, hr, Result.andThen]
  exact hK
end
theorem sizeOf50 (w : World) : (Go.sizeOf 50).run Tryd.prog w = .ok 2 w := by kernel_rfl
theorem isSome_setCells2 (b : Nat) (vs : List Value) (o : Nat) (w : World) (h : ∀ j, j < vs.length → (w.cell? ⟨b, o + j, none⟩).isSome = true) (k : Nat) (hk : (w.cell? ⟨b, k, none⟩).isSome = true) : ((w.setCells b o vs).cell? ⟨b, k, none⟩).isSome = true := by
  by_cases hin : o ≤ k ∧ k < o + vs.length
  · have := World.cell?_setCells_in b vs o w h (k - o) (by omega)
    rw [show o + (k - o) = k by omega] at this
    rw [this]; rfl
  · rw [World.cell?_setCells_out b vs o w ⟨b, k, none⟩ (fun _ _ => by show k < o ∨ o + vs.length ≤ k; omega)]
    exact hk
set_option maxHeartbeats 4000000 in
set_option maxRecDepth 1000000 in
theorem insert_shift (g n c i vb vc : Nat) (cur curv : Array Value) (l0 : List S50) (x : S50) (w : World) (hb : w.heap[g]? = some (.cells cur 50 (0, 0))) (hv : w.heap[vb]? = some (.cells curv 50 (0, 0))) (hne : vb ≠ g) (hn : l0.length = n) (hroom : n + 1 ≤ c) (hm : c ≤ 9223372036854775807) (hcs : cur.size = c * 2) (htk : cur.toList.take (n * 2) = cells50 l0) (hvt : curv.toList.take 2 = cells50 [x]) (hlt : i < n) :
    Calls Tryd.prog 53 #[.slice (some ⟨g, 0, none⟩) n c, .int .i64 i, .slice (some ⟨vb, 0, none⟩) 1 vc] w fun e w' => e = .returned (.slice (some ⟨g, 0, none⟩) (n + 1) c) ∧ w' = (w.drew.setCells g ((i + 1) * 2) (cells50 (l0.drop i))).setCells g (i * 2) (cells50 [x]) := by
  have hvs : ∀ j u, (cells50 [x])[j]? = some u → w.cell? ⟨vb, 0 + j, none⟩ = some u := by
    intro j u hu
    rw [zD hv, Nat.zero_add]
    rw [← hvt, List.getElem?_take] at hu
    split at hu
    · simpa using hu
    · cases hu
  obtain ⟨news, hnews⟩ : ∃ news, news = cells50 (l0.drop i) := ⟨_, rfl⟩
  have hdl : news.length = (n - i) * 2 := by rw [hnews, cells50_length, List.length_drop, hn]
  have hget : ∀ t u, news[t]? = some u → w.drew.cell? ⟨g, i * 2 + t, none⟩ = some u := by
    intro t u hu
    show w.cell? _ = _
    rw [zD hb]
    have ht : t < (n - i) * 2 := by rw [← hdl]; exact (List.getElem?_eq_some_iff.1 hu).1
    rw [hnews, cells50_drop, List.getElem?_drop, ← htk, List.getElem?_take, if_pos (by omega)] at hu
    simpa using hu
  have hsp : ∀ j, j < (n + 1) * 2 → (w.drew.cell? ⟨g, j, none⟩).isSome = true := fun j hj => by
    show (w.cell? _).isSome = true
    rw [zD hb, Array.getElem?_eq_getElem (by omega)]
    rfl
  have hfz : ∀ j, w.drew.frozen? ⟨g, j, none⟩ = false := fun j => zH (w := w) hb j
  have hsz : (Tryd.prog.info? 50).map (·.size) = some 2 := by kernel_rfl
  have hsa : w.shape? vb = some (50, curv.size) := by simp [World.shape?, hv]
  have hsb : w.shape? g = some (50, cur.size) := by simp [World.shape?, hb]
  have hov : ∀ lb cb, (callFunc 70 #[.slice (some ⟨vb, 0, none⟩) 1 vc, .slice (some ⟨g, (i + 1) * 2, none⟩) lb cb]).run Tryd.prog w = .ok (.value (.bool false)) w := fun lb cb => by
    rw [run_callFunc_extern Tryd.func70 (by kernel_rfl) (by kernel_rfl) (by kernel_rfl) (e := Extern.SlicesOverlaps.overlaps #[39, 39] #[4]) (by kernel_rfl),
      Lib.run_overlaps_apart w 39 4 50 Tryd.underlying39 2 sizeOf50 ⟨vb, 0, none⟩ ⟨g, (i + 1) * 2, none⟩ 1 vc lb cb hne 50 50 curv.size cur.size hsa hsb (by omega) (zH hv 0) (zH hv _)]
    rfl
  have hcp1 : ∀ ty dc sc, (Builtin.copy_ #[39, 39] ty #[.slice (some ⟨g, (i + 1) * 2, none⟩) (n - i) dc, .slice (some ⟨g, i * 2, none⟩) (n + 1 - i) sc]).run Tryd.prog w.drew = .ok (goInt (Nat.min (n + 1 - i) (n - i))) (w.drew.setCells g ((i + 1) * 2) news) := fun ty dc sc =>
    copy_cells w.drew 39 39 ty 50 2 g ((i + 1) * 2) (n - i) dc ⟨g, i * 2, none⟩ (n + 1 - i) sc news Tryd.underlying39 hsz (by rw [hdl]; simp only [Nat.min_def]; split <;> omega)
      (fun j v hj => by rw [Addr.add_lit]; exact hget j v hj)
      (fun j hj => hsp _ (by omega)) (fun j hj => hfz _) (by rw [hnews]; exact cells50_one _)
  obtain ⟨W1, hW1⟩ : ∃ W1, W1 = w.drew.setCells g ((i + 1) * 2) news := ⟨_, rfl⟩
  have hsp1 : ∀ k, k < (n + 1) * 2 → (W1.cell? ⟨g, k, none⟩).isSome = true := fun k hk => by
    rw [hW1]
    exact isSome_setCells2 g _ _ _ (fun j hj => hsp _ (by omega)) _ (hsp k hk)
  have hcp2 : ∀ ty dc, (Builtin.copy_ #[39, 39] ty #[.slice (some ⟨g, i * 2, none⟩) (n + 1 - i) dc, .slice (some ⟨vb, 0, none⟩) 1 vc]).run Tryd.prog W1 = .ok (goInt (Nat.min 1 (n + 1 - i))) (W1.setCells g (i * 2) (cells50 [x])) := fun ty dc =>
    copy_cells W1 39 39 ty 50 2 g (i * 2) (n + 1 - i) dc ⟨vb, 0, none⟩ 1 vc (cells50 [x]) Tryd.underlying39 hsz (by rw [cells50_length]; simp only [Nat.min_def, List.length_singleton]; split <;> omega)
      (fun j v hj => by
        rw [Addr.add_lit, hW1, World.cell?_setCells_out g _ _ _ _ (fun h _ => absurd h hne)]
        exact hvs j v hj)
      (fun j hj => hsp1 _ (by rw [cells50_length, List.length_singleton] at hj; omega)) (fun j hj => by rw [hW1, World.frozen?_setCells]; exact hfz _) (cells50_one _)
  rw [← hW1] at hcp1
  have X : Aside0 (W1 = w.drew.setCells g ((i + 1) * 2) (cells50 (l0.drop i))) := ⟨by rw [hW1, hnews]⟩
  have hw1 : IntKind.i64.wrap ((i : Int) + 1) = (i : Int) + 1 := by rw [IntKind.wrap_i64]; omega
  have hb1 : (0 : Int) ≤ (i : Int) + 1 := by omega
  have hin : i ≤ n := by omega
  have hz2 : ((i : Int) == (n : Int)) = false := by simp; omega
  have htn : ((i : Int) + 1).toNat = i + 1 := by omega
  have hb2 : ¬ (c = i + 1) := by omega
  have hb3 : (i : Int) ≤ (n : Int) + 1 := by omega
  have hb4 : ¬ (c = i) := by omega
  clear hW1 hsp1 hsp hfz hget hdl hnews hvs hsa hsb hcs htk hvt hb hv
  go_enter Tryd.func53, Tryd.ntmps53
  go_wp2_with (simp only [hov])
  go_region_law (refine step_copy_run2 rfl (.tmp 73) (.tmp 76) 39 39 rfl (.slice (some ⟨g, (i + 1) * 2, none⟩) (n - i) (c - (i + 1))) (.slice (some ⟨g, i * 2, none⟩) (n + 1 - i) (c - i)) (by simp [Act.eval, Act.put]) (by simp [Act.eval, Act.put]) (hcp1 _ _ _) ?_)
  go_wp2_with (at_builtin; refine wpList_copy_run2 _ rfl _ _ 39 39 rfl _ _ rfl rfl (hcp2 _ _) ?_)
  go_ret
  exact ⟨rfl, by rw [← X.out]⟩
def zz50 : Value := .agg #[.string ⟨#[]⟩, .string ⟨#[]⟩]
def row50 (l0 : List S50) (n i G : Nat) : Array Value := (cells50 (l0.take i)).toArray ++ Builtin.zeroCells zz50.cells (n + 1 - i) ++ Builtin.zeroCells zz50.cells (G - (n + 1))
theorem row50_size (l0 : List S50) (n i G : Nat) (hn : l0.length = n) (hi : i < n) (hG : n + 1 ≤ G) : (row50 l0 n i G).size = G * 2 := by
  have hc : zz50.cells.size = 2 := by rfl
  simp [row50, Builtin.zeroCells, hc, cells50_length, hn]
  rw [Nat.min_eq_left (by omega)]
  omega
set_option maxHeartbeats 4000000 in
set_option maxRecDepth 1000000 in
theorem insert_grow (g n c i vb vc : Nat) (cur curv : Array Value) (l0 : List S50) (x : S50) (w : World) (hb : w.heap[g]? = some (.cells cur 50 (0, 0))) (hv : w.heap[vb]? = some (.cells curv 50 (0, 0))) (hn : l0.length = n) (hnc : n ≤ c) (hroom : c < n + 1) (hbig : (n + 1) * 32 ≤ 140737488355328) (hcs : cur.size = c * 2) (htk : cur.toList.take (n * 2) = cells50 l0) (hvt : curv.toList.take 2 = cells50 [x]) (hlt : i < n) :
    Calls Tryd.prog 53 #[.slice (some ⟨g, 0, none⟩) n c, .int .i64 i, .slice (some ⟨vb, 0, none⟩) 1 vc] w fun e w' => ∃ G, n + 1 ≤ G ∧ G ≤ 9223372036854775807 ∧ e = .returned (.slice (some ⟨w.heap.size, 0, none⟩) (n + 1) G) ∧
      w' = (((w.alloc (.cells (row50 l0 n i G) 50)).drew.setCells w.heap.size (i * 2) (cells50 [x])).drew).setCells w.heap.size ((i + 1) * 2) (cells50 (l0.drop i)) := by
  obtain ⟨i0, hi0, hz0, hzs, hzb⟩ := info_parts info50
  have hvs : ∀ j u, (cells50 [x])[j]? = some u → w.cell? ⟨vb, j, none⟩ = some u := by
    intro j u hu
    rw [zD hv]
    rw [← hvt, List.getElem?_take] at hu
    split at hu
    · simpa using hu
    · cases hu
  have hcells : ∀ j u, (cells50 l0)[j]? = some u → w.cell? ⟨g, j, none⟩ = some u := by
    intro j u hu
    rw [zD hb]
    rw [← htk, List.getElem?_take] at hu
    split at hu
    · simpa using hu
    · cases hu
  have hbw : g < w.heap.size := blk_lt hb
  have hvw : vb < w.heap.size := blk_lt hv
  have hik : i + (n + 1 - i) = n + 1 := by omega
  have hkk : (n : Int) + 1 - (i : Int) = ((n + 1 - i : Nat) : Int) := by omega
  have hold : (Builtin.firstCells i0.size i (.slice (some ⟨g, 0, none⟩) i c)).run Tryd.prog w.drew = .ok (cells50 (l0.take i)).toArray w.drew := by
    rw [hzs]
    exact run_firstCells_some w.drew 2 i ⟨g, 0, none⟩ i c (cells50 (l0.take i)) (by rw [cells50_length, List.length_take]; omega) (fun j v hj => by
      rw [Addr.add_lit, Nat.zero_add]
      rw [cells50_take, List.getElem?_take] at hj
      split at hj
      · exact hcells j v hj
      · cases hj)
  have hrz : ∀ ty, (Builtin.append_ #[39, 3] ty #[.slice (some ⟨g, 0, none⟩) i c, .int .i64 ((n : Int) + 1 - (i : Int))]).run Tryd.prog w =
      .ok (.slice (some ⟨w.heap.size, 0, none⟩) (n + 1) (grownCap w (n + 1) c 50)) (w.drew.alloc (.cells (row50 l0 n i (grownCap w (n + 1) c 50)) 50)) := fun ty => by
    have h := Lib.run_append_grow_zeros w 39 3 ty 50 i0 _ .i64 .i64 Tryd.underlying39 Tryd.underlying3 hi0 hz0 (some ⟨g, 0, none⟩) i c (cells50 (l0.take i)) hold (n + 1 - i) (by omega) (by omega) (by omega) (by omega) (by rw [hzb]; omega) (by rw [hzb, hik]; exact growslice_fits hroom hbig)
    rw [hik] at h
    rw [hkk]
    exact h
  obtain ⟨G, hG⟩ : ∃ G, G = grownCap w (n + 1) c 50 := ⟨_, rfl⟩
  rw [← hG] at hrz
  have hGn : n + 1 ≤ G := by rw [hG]; exact grownCap_ge w _ _ _
  have hG63 : G ≤ 9223372036854775807 := by
    have := grownCap_le_maxLen w (n + 1) c 50 (by unfold maxLen; omega)
    rw [← hG] at this
    unfold maxLen at this
    omega
  have hRl : (row50 l0 n i G).size = G * 2 := row50_size l0 n i G hn hlt hGn
  obtain ⟨ROW, hROW⟩ : ∃ ROW, ROW = row50 l0 n i G := ⟨_, rfl⟩
  rw [← hROW] at hrz hRl
  obtain ⟨news, hnews⟩ : ∃ news, news = cells50 (l0.drop i) := ⟨_, rfl⟩
  have hdl : news.length = (n - i) * 2 := by rw [hnews, cells50_length, List.length_drop, hn]
  have hsz : (Tryd.prog.info? 50).map (·.size) = some 2 := by kernel_rfl
  obtain ⟨W1, hW1⟩ : ∃ W1, W1 = w.drew.alloc (.cells ROW 50) := ⟨_, rfl⟩
  rw [← hW1] at hrz
  have hN : ∀ j, j < (n + 1) * 2 → (W1.cell? ⟨w.heap.size, j, none⟩).isSome = true := fun j hj => by
    rw [hW1, World.cell?_alloc_at (w := w.drew) ROW _ w.heap.size j rfl, Array.getElem?_eq_getElem (by omega)]; rfl
  have hNf : ∀ j, W1.frozen? ⟨w.heap.size, j, none⟩ = false := fun j => by rw [hW1]; exact World.frozen?_alloc_at (w := w.drew) ROW _ w.heap.size j rfl
  have hOb : ∀ j v, w.cell? ⟨g, j, none⟩ = some v → W1.cell? ⟨g, j, none⟩ = some v := fun j v h => by rw [hW1, World.cell?_alloc_past (w := w.drew) _ g j hbw]; exact h
  have hOv : ∀ j v, w.cell? ⟨vb, j, none⟩ = some v → W1.cell? ⟨vb, j, none⟩ = some v := fun j v h => by rw [hW1, World.cell?_alloc_past (w := w.drew) _ vb j hvw]; exact h
  have hcpA : ∀ (W : World), (∀ x, W.cell? x = W1.cell? x) → (∀ x, W.frozen? x = W1.frozen? x) → ∀ ty dc, (Builtin.copy_ #[39, 39] ty #[.slice (some ⟨w.heap.size, i * 2, none⟩) (n + 1 - i) dc, .slice (some ⟨vb, 0, none⟩) 1 vc]).run Tryd.prog W = .ok (goInt (Nat.min 1 (n + 1 - i))) (W.setCells w.heap.size (i * 2) (cells50 [x])) := fun W hWc hWf ty dc =>
    copy_cells W 39 39 ty 50 2 w.heap.size (i * 2) (n + 1 - i) dc ⟨vb, 0, none⟩ 1 vc (cells50 [x]) Tryd.underlying39 hsz (by rw [cells50_length]; simp only [Nat.min_def, List.length_singleton]; split <;> omega)
      (fun j v hj => by rw [Addr.add_lit, hWc, Nat.zero_add]; exact hOv _ v (hvs j v hj))
      (fun j hj => by rw [hWc]; exact hN _ (by rw [cells50_length, List.length_singleton] at hj; omega)) (fun j hj => by rw [hWf]; exact hNf _) (cells50_one _)
  have hGi : ¬ (G = i) := by omega
  have hGim : ¬ (G = i + 1) := by omega
  have hci : ¬ (c = i) := by omega
  have hbN : g ≠ w.heap.size := by omega
  have hcpB : ∀ (W : World), (∀ y, W.cell? y = (W1.setCells w.heap.size (i * 2) (cells50 [x])).cell? y) → (∀ y, W.frozen? y = (W1.setCells w.heap.size (i * 2) (cells50 [x])).frozen? y) → ∀ ty dc sc, (Builtin.copy_ #[39, 39] ty #[.slice (some ⟨w.heap.size, (i + 1) * 2, none⟩) (n - i) dc, .slice (some ⟨g, i * 2, none⟩) (n - i) sc]).run Tryd.prog W = .ok (goInt (Nat.min (n - i) (n - i))) (W.setCells w.heap.size ((i + 1) * 2) news) := fun W hWc hWf ty dc sc =>
    copy_cells W 39 39 ty 50 2 w.heap.size ((i + 1) * 2) (n - i) dc ⟨g, i * 2, none⟩ (n - i) sc news Tryd.underlying39 hsz (by rw [hdl, show Nat.min (n - i) (n - i) = n - i from Nat.min_self _])
      (fun j v hj => by
        rw [Addr.add_lit, hWc, World.cell?_setCells_out _ _ _ _ _ (fun h _ => absurd h hbN)]
        exact hOb _ v (hcells _ v (by rwa [hnews, cells50_drop, List.getElem?_drop] at hj)))
      (fun j hj => by rw [hWc]; exact isSome_setCells2 _ _ _ _ (fun t ht => hN _ (by rw [cells50_length, List.length_singleton] at ht; omega)) _ (hN _ (by omega)))
      (fun j hj => by rw [hWf, World.frozen?_setCells]; exact hNf _) (by rw [hnews]; exact cells50_one _)
  subst hW1
  have hE1 : ∀ y, ((w.alloc (.cells ROW 50)).drew).cell? y = (w.drew.alloc (.cells ROW 50)).cell? y := fun y => rfl
  have hE2 : ∀ y, ((w.alloc (.cells ROW 50)).drew).frozen? y = (w.drew.alloc (.cells ROW 50)).frozen? y := fun y => rfl
  have hF1 : ∀ y, (((w.alloc (.cells ROW 50)).drew.setCells w.heap.size (i * 2) (cells50 [x])).drew).cell? y = ((w.drew.alloc (.cells ROW 50)).setCells w.heap.size (i * 2) (cells50 [x])).cell? y := fun y => rfl
  have hF2 : ∀ y, (((w.alloc (.cells ROW 50)).drew.setCells w.heap.size (i * 2) (cells50 [x])).drew).frozen? y = ((w.drew.alloc (.cells ROW 50)).setCells w.heap.size (i * 2) (cells50 [x])).frozen? y := fun y => rfl
  have hw1 : IntKind.i64.wrap ((i : Int) + 1) = (i : Int) + 1 := by rw [IntKind.wrap_i64]; omega
  have hb1 : (0 : Int) ≤ (i : Int) + 1 := by omega
  have hin : i ≤ n := by omega
  have hz2 : ((i : Int) == (n : Int)) = false := by simp; omega
  have hz3 : (c : Int) < (n : Int) + 1 := by omega
  have htn : ((i : Int) + 1).toNat = i + 1 := by omega
  have hb3 : (i : Int) ≤ (n : Int) := by omega
  have N : Aside0 (ROW = row50 l0 n i G ∧ news = cells50 (l0.drop i)) := ⟨hROW, hnews⟩
  clear hkk hik hold hROW hG hRl hdl hnews hcells hvs hcs htk hvt hb hv hN hNf hOb hOv
  go_enter Tryd.func53, Tryd.ntmps53
  go_wp2_with (first
    | (at_builtin; refine Lib.wpList_append_run _ rfl _ _ _ _ rfl _ _ rfl rfl _ _ (hrz _) ?_)
    | (at_builtin; refine wpList_copy_run2 _ rfl _ _ 39 39 rfl _ _ rfl rfl (hcpA _ hE1 hE2 _ _) ?_))
  go_region_law (refine step_copy_run2 rfl (.tmp 50) (.tmp 53) 39 39 rfl (.slice (some ⟨w.heap.size, (i + 1) * 2, none⟩) (n - i) (G - (i + 1))) (.slice (some ⟨g, i * 2, none⟩) (n - i) (c - i)) (by simp [Act.eval, Act.put]) (by simp [Act.eval, Act.put]) (hcpB _ hF1 hF2 3 (G - (i + 1)) (c - i)) ?_)
  go_wp2
  go_ret
  exact ⟨G, hGn, hG63, rfl, by rw [N.out.1, N.out.2]⟩
def insert_files.f (l0 : List S50) (a1 : Int) (l2 : List S50) : Option (List S50 × List S50) := if 0 ≤ a1 ∧ a1 ≤ (l0.length : Int) ∧ l2.length = 1 ∧ (l0.length + 1) * 32 ≤ 140737488355328 then some (l0.take a1.toNat ++ l2 ++ l0.drop a1.toNat, l2) else none
set_option maxHeartbeats 4000000 in
set_option maxRecDepth 1000000 in
theorem insert_end (P0_ : Nat → Prop) (A0 : Option Addr) (c0 : Nat) (l0 : List S50) (A2 : Option Addr) (c2 : Nat) (l2 : List S50) (w0 w : World) (hB : Below w0.heap.size w0 w) (ho0 : Kd.R k50 50 w w0.heap.size P0_ (.slice A0 l0.length c0) l0) (hr2 : Kd.C k50 w A2 l2.length l2) (hc2 : l2.length ≤ c2) (h1 : l2.length = 1) (hbig : (l0.length + 1) * 32 ≤ 140737488355328) :
    Calls Tryd.prog 53 #[.slice A0 l0.length c0, .int .i64 l0.length, .slice A2 l2.length c2] w fun e w' => ∃ v0_ : Value, e = .returned v0_ ∧ Kd.R k50 50 w' w0.heap.size (fun k_ => P0_ k_ ∨ w.heap.size ≤ k_) v0_ (l0 ++ l2) ∧ Below w0.heap.size w0 w' ∧ w.grownBy w' (Value.slice A0 l0.length c0).ownBlock ∧ w.heap.size ≤ w'.heap.size := by
  have HO := Aside0.mk (Kd.R_mono (ok' := fun k_ => P0_ k_ ∨ w.heap.size ≤ k_) ho0 (fun k hk => .inl hk))
  have HR := Aside0.mk hr2
  have HB := Aside0.mk hB
  have hnc : l0.length ≤ c0 := (Kd.R_reads' ho0).2.1
  have hm : c0 ≤ 9223372036854775807 := by
    obtain ⟨_, _, h3⟩ := R50_open ho0
    rcases h3 with ⟨h3, _⟩ | ⟨g, cap, cur, h3, _, _, _, h4, _⟩
    · injection h3 with _ _ h5; omega
    · injection h3 with _ _ h5; simp only [maxLen] at h4; omega
  have L1 := Aside0.mk h1
  have LB := Aside0.mk hbig
  have h2 : ((l2.length : Int) == 0) = false := by simp [h1]
  have h2' : ¬ ((l2.length : Int) = 0) := by omega
  clear ho0 hr2 hB h1 hbig
  rcases Nat.eq_or_lt_of_le hnc with hc | hc
  · have hc' := hc.symm
    clear hc
    subst hc'
    go_enter Tryd.func53, Tryd.ntmps53
    go_wp2_with ((with_reducible refine gate_builtin (b := .append) (xs := #[.tmp 23, .tmp 24]) rfl ?_); at_builtin; refine Kd.R_append_rows k50 (w0 := w0) w0.heap.size rfl (.tmp 23) (.tmp 24) 39 50 (.agg #[.string ⟨#[]⟩, .string ⟨#[]⟩]) 32 rfl Tryd.underlying39 info50 rfl (by decide) (by omega) (.slice A0 l0.length l0.length) l0 l2 _ _ _ (fun k_ => P0_ k_ ∨ w.heap.size ≤ k_) (fun _ => False) rfl rfl ?aO ?aR (fun _ _ h => h) (fun _ h => h.elim) ?aF ?aB ?aS ?aL ?_; (case aR => exact HR.out); (case aB => exact HB.out); (case aF => exact (fun _ hk => .inr hk)); (case aO => exact HO.out); (case aS => exact HB.out.size); (case aL => have := LB.out; have := L1.out; omega); intro v114 w6 ho hb hg hat; have HO2 := Aside0.mk ho; have HB2 := Aside0.mk hb; have HG := Aside0.mk hg; clear ho hb hg hat)
    go_ret
    exact ⟨_, rfl, HO2.out, HB2.out, HG.out, HG.out.size⟩
  · have hcn : ¬ c0 = l0.length := by omega
    go_enter Tryd.func53, Tryd.ntmps53
    go_wp2_with ((with_reducible refine gate_builtin (b := .append) (xs := #[.tmp 23, .tmp 24]) rfl ?_); at_builtin; refine Kd.R_append_rows k50 (w0 := w0) w0.heap.size rfl (.tmp 23) (.tmp 24) 39 50 (.agg #[.string ⟨#[]⟩, .string ⟨#[]⟩]) 32 rfl Tryd.underlying39 info50 rfl (by decide) (by omega) (.slice A0 l0.length c0) l0 l2 _ _ _ (fun k_ => P0_ k_ ∨ w.heap.size ≤ k_) (fun _ => False) rfl rfl ?aO ?aR (fun _ _ h => h) (fun _ h => h.elim) ?aF ?aB ?aS ?aL ?_; (case aR => exact HR.out); (case aB => exact HB.out); (case aF => exact (fun _ hk => .inr hk)); (case aO => exact HO.out); (case aS => exact HB.out.size); (case aL => have := LB.out; have := L1.out; omega); intro v114 w6 ho hb hg hat; have HO2 := Aside0.mk ho; have HB2 := Aside0.mk hb; have HG := Aside0.mk hg; clear ho hb hg hat)
    go_ret
    exact ⟨_, rfl, HO2.out, HB2.out, HG.out, HG.out.size⟩
theorem hl1_ins (n i : Nat) (h : i < n) : (i + 1) * 2 + (n - i) * 2 = (n + 1) * 2 := by omega
theorem ins_list {α : Type} (C D : List α) (p q : Nat) (hq : D.length = q) (hpq : p + q ≤ C.length) : (C.take p ++ D ++ C.drop (p + D.length)).take (p + q) = C.take p ++ D := by
  have h1 : (C.take p ++ D).length = p + q := by simp [hq]; omega
  rw [← h1, List.take_left']
  rfl
theorem ins_list2 {α : Type} (C V : List α) (i : Nat) (hv : V.length = 1 * 2) (hl : (i + 1) * 2 ≤ C.length) : (C.take (i * 2) ++ V ++ C.drop (i * 2 + V.length)).take ((i + 1) * 2) = C.take (i * 2) ++ V := by
  rw [show (i + 1) * 2 = i * 2 + 1 * 2 by omega]
  exact ins_list C V (i * 2) (1 * 2) hv (by omega)
theorem ins_list3 {α : Type} (C D V : List α) (i q : Nat) (hv : V.length = 1 * 2) (hq : D.length = q) (hl : (i + 1) * 2 + q ≤ C.length) :
    ((C.take ((i + 1) * 2) ++ D ++ C.drop ((i + 1) * 2 + D.length)).take (i * 2) ++ V ++ (C.take ((i + 1) * 2) ++ D ++ C.drop ((i + 1) * 2 + D.length)).drop (i * 2 + V.length)).take ((i + 1) * 2 + q) = C.take (i * 2) ++ V ++ D := by
  have e1 : (C.take ((i + 1) * 2) ++ D ++ C.drop ((i + 1) * 2 + D.length)).take (i * 2) = C.take (i * 2) := by
    rw [List.append_assoc, List.take_append_of_le_length (by simp; omega), List.take_take, Nat.min_eq_left (by omega)]
  have e2 : (C.take ((i + 1) * 2) ++ D ++ C.drop ((i + 1) * 2 + D.length)).drop (i * 2 + V.length) = D ++ C.drop ((i + 1) * 2 + D.length) := by
    have h1 : (C.take ((i + 1) * 2)).length = i * 2 + V.length := by simp; omega
    rw [List.append_assoc, ← h1, List.drop_left']
    rfl
  have h2 : (C.take (i * 2) ++ V ++ D).length = (i + 1) * 2 + q := by simp; omega
  rw [e1, e2, ← List.append_assoc, ← h2, List.take_left']
  rfl
theorem insert_files.calls (P0_ : Nat → Prop) (u9000_ : Value) (l0 : List S50) (a1 : Int) (P2_ : Nat → Prop) (u9001_ : Value) (l2 : List S50) (r1 r2 : List S50) (w0 w : World) (hB : Below w0.heap.size w0 w) (ho0 : Kd.R k50 50 w w0.heap.size P0_ u9000_ l0) (hp0_2 : ∀ k_, P0_ k_ → ¬ P2_ k_) (ho2 : Kd.R k50 50 w w0.heap.size P2_ u9001_ l2) (hp2_0 : ∀ k_, P2_ k_ → ¬ P0_ k_) (h : insert_files.f l0 a1 l2 = some (r1, r2)) :
    Calls Tryd.prog 53 #[u9000_, .int .i64 a1, u9001_] w fun e w' => ∃ v0_ : Value, e = .returned (v0_) ∧ Kd.R k50 50 w' w0.heap.size (fun k_ => ((P0_ k_ ∨ P2_ k_) ∨ w.heap.size ≤ k_) ∧ some k_ ≠ (u9001_ : Value).ownBlock) v0_ r1 ∧ Kd.R k50 50 w' w0.heap.size (fun k_ => ((P0_ k_ ∨ P2_ k_) ∨ w.heap.size ≤ k_)) u9001_ r2 ∧ Below w0.heap.size w0 w' ∧ Kept w w' (fun k_ => P0_ k_ ∨ P2_ k_) := by
  unfold insert_files.f at h
  by_cases hc : 0 ≤ a1 ∧ a1 ≤ (l0.length : Int) ∧ l2.length = 1 ∧ (l0.length + 1) * 32 ≤ 140737488355328
  · rw [if_pos hc] at h
    have h' := Option.some.inj h
    simp only [Prod.mk.injEq] at h'
    obtain ⟨rfl, rfl⟩ := h'
    obtain ⟨h1, h2, h3, h4⟩ := hc
    obtain ⟨i, rfl⟩ := Int.eq_ofNat_of_zero_le h1
    simp only [Int.toNat_natCast]
    have hi : i ≤ l0.length := by omega
    obtain ⟨hok2, hlen2, ho2'⟩ := R50_open ho2
    rcases ho2' with ⟨_, hz⟩ | ⟨vb, vc, curv, rfl, hvb, hv, hvc, hvm, hvs, hvt⟩
    · omega
    · have hP2 : P2_ vb := hok2 vb rfl
      have hvlt : vb < w.heap.size := blk_lt hv
      obtain ⟨x, rfl⟩ : ∃ x, l2 = [x] := List.length_eq_one_iff.1 h3
      rcases Nat.eq_or_lt_of_le hi with rfl | hlt
      · obtain ⟨A0, c0, rfl⟩ := Kd.R_slice ho0
        have hR2 := (Kd.R_reads' ho2).2.2
        refine (insert_end P0_ A0 c0 l0 _ vc [x] w0 w hB ho0 hR2 hvc h3 h4).mono ?_
        rintro e w' ⟨v0_, rfl, hR, hBb, hG, hS⟩
        have hown : ∀ k, (Value.slice A0 l0.length c0).ownBlock = some k → P0_ k := ho0.1
        refine ⟨v0_, rfl, ?_, ?_, hBb, ?_⟩
        · have e1 : l0.take l0.length ++ [x] ++ l0.drop l0.length = l0 ++ [x] := by simp
          rw [e1]
          refine Kd.R_mono hR (fun k hk => ⟨hk.elim (fun h => .inl (.inl h)) .inr, fun he => ?_⟩)
          have hkv : k = vb := by simpa [Value.ownBlock] using he
          subst hkv
          rcases hk with hk | hk
          · exact hp0_2 _ hk hP2
          · omega
        · exact Kd.R_mono (Kd.R_grown ho2 hG (fun k hk he => hp2_0 k hk (hown k he.symm))) (fun k hk => .inl (.inr hk))
        · exact ⟨hS, fun k hk hn => hG.block k hk (fun he => hn (.inl (hown k he.symm)))⟩
      · obtain ⟨hok, hlen, ho⟩ := R50_open ho0
        rcases ho with ⟨_, ho⟩ | ⟨g, cap, cur, rfl, hg, hb, hnc, hm, hcs, htk⟩
        · omega
        · have hP : P0_ g := hok g rfl
          have hgl : g < w.heap.size := blk_lt hb
          have hne : vb ≠ g := fun e => hp0_2 g hP (e ▸ hP2)
          simp only [maxLen] at hm
          have hl1 : (cells50 (l0.drop i)).length = (l0.length - i) * 2 := by rw [cells50_length, List.length_drop]
          have hrl : (l0.take i ++ [x] ++ l0.drop i).length = l0.length + 1 := by simp; omega
          have hcl : cells50 (l0.take i ++ [x] ++ l0.drop i) = (cells50 l0).take (i * 2) ++ cells50 [x] ++ cells50 (l0.drop i) := by rw [cells50_append, cells50_append, cells50_take]
          rcases Nat.lt_or_ge cap (l0.length + 1) with hroom | hroom
          · refine (insert_grow g l0.length cap i vb vc cur curv l0 x w hb hv rfl hnc hroom h4 hcs htk hvt hlt).mono ?_
            rintro e w' ⟨G, hG1, hG2, rfl, rfl⟩
            have hN := row50_size l0 l0.length i G rfl hlt hG1
            obtain ⟨cur1, hb1, hcur1⟩ := blk_setCells w.heap.size (cells50 [x]) (i * 2) (w.alloc (.cells (row50 l0 l0.length i G) 50)).drew (row50 l0 l0.length i G) (heap_alloc_new w _) (by rw [cells50_length, List.length_singleton]; omega)
            have hsz1 : cur1.size = G * 2 := by
              have : cur1.toList.length = G * 2 := by rw [hcur1]; simp [hN, cells50_length]; omega
              simpa using this
            obtain ⟨cur2, hb2, hcur2⟩ := blk_setCells w.heap.size (cells50 (l0.drop i)) ((i + 1) * 2) ((w.alloc (.cells (row50 l0 l0.length i G) 50)).drew.setCells w.heap.size (i * 2) (cells50 [x])).drew cur1 hb1 (by rw [hl1]; omega)
            have hsz2 : cur2.size = G * 2 := by
              have : cur2.toList.length = G * 2 := by rw [hcur2]; simp [hsz1, hl1]; omega
              simpa using this
            have hfar : ∀ k, k < w.heap.size → ((((w.alloc (.cells (row50 l0 l0.length i G) 50)).drew.setCells w.heap.size (i * 2) (cells50 [x])).drew).setCells w.heap.size ((i + 1) * 2) (cells50 (l0.drop i))).heap[k]? = w.heap[k]? := by
              intro k hk
              have hne' : k ≠ w.heap.size := by omega
              rw [setCells_far _ _ _ _ _ hne']
              show ((w.alloc (.cells (row50 l0 l0.length i G) 50)).drew.setCells w.heap.size (i * 2) (cells50 [x])).heap[k]? = _
              rw [setCells_far _ _ _ _ _ hne']
              exact Below.heap_alloc w _ k hk
            refine ⟨_, rfl, R50_mk (fun k hk => ?_) ⟨by rw [cells50_length], .inr ⟨w.heap.size, G, cur2, by rw [hrl], hB.size, hb2, by rw [hrl]; omega, by simp only [maxLen]; omega, hsz2, ?_⟩⟩, ?_, ?_, ?_⟩
            · have : w.heap.size = k := by simpa [Value.ownBlock] using hk
              subst this
              exact ⟨.inr (Nat.le_refl _), fun he => by have : w.heap.size = vb := by simpa [Value.ownBlock] using he
                                                        omega⟩
            · rw [hrl, hcl, hcur2, ← hl1_ins l0.length i hlt, ins_list cur1.toList _ _ _ hl1 (by simp [hsz1]; omega), hcur1]
              have e3 : (row50 l0 l0.length i G).toList.take (i * 2) = (cells50 l0).take (i * 2) := by
                simp only [row50, Array.toList_append]
                rw [List.append_assoc, List.take_append_of_le_length (by rw [cells50_length, List.length_take]; omega), cells50_take, List.take_take, Nat.min_self]
              rw [ins_list2 (row50 l0 l0.length i G).toList _ _ (by rw [cells50_length, List.length_singleton]) (by simp [hN]; omega), e3]
            · exact Kd.R_mono (Kd.R_step ho2 (fun k _ hk => hfar k hk)) (fun k hk => .inl (.inr hk))
            · exact setCells_below (below_drew (setCells_below (below_drew (hB.alloc hB.size _)) hB.size _ _)) hB.size _ _
            · exact ⟨by rw [setCells_size]; show _ ≤ ((w.alloc _).drew.setCells _ _ _).heap.size; rw [setCells_size]; show _ ≤ (w.alloc _).heap.size; simp, fun k hk hn => hfar k hk⟩
          · refine (insert_shift g l0.length cap i vb vc cur curv l0 x w hb hv hne rfl hroom hm hcs htk hvt hlt).mono ?_
            rintro e w' ⟨rfl, rfl⟩
            obtain ⟨cur1, hb1, hcur1⟩ := blk_setCells g (cells50 (l0.drop i)) ((i + 1) * 2) w.drew cur hb (by rw [hl1]; omega)
            have hsz1 : cur1.size = cap * 2 := by
              have : cur1.toList.length = cap * 2 := by rw [hcur1]; simp [hl1, hcs]; omega
              simpa using this
            obtain ⟨cur2, hb2, hcur2⟩ := blk_setCells g (cells50 [x]) (i * 2) _ cur1 hb1 (by rw [cells50_length, List.length_singleton]; omega)
            have hsz2 : cur2.size = cap * 2 := by
              have : cur2.toList.length = cap * 2 := by rw [hcur2]; simp [hsz1, cells50_length]; omega
              simpa using this
            have hfar : ∀ k, k ≠ g → ((w.drew.setCells g ((i + 1) * 2) (cells50 (l0.drop i))).setCells g (i * 2) (cells50 [x])).heap[k]? = w.heap[k]? := by
              intro k hk
              rw [setCells_far _ _ _ _ _ hk, setCells_far _ _ _ _ _ hk]
              rfl
            refine ⟨_, rfl, R50_mk (fun k hk => ?_) ⟨by rw [cells50_length], .inr ⟨g, cap, cur2, by rw [hrl], hg, hb2, by rw [hrl]; omega, by simp only [maxLen]; omega, hsz2, ?_⟩⟩, ?_, ?_, ?_⟩
            · have : g = k := by simpa [Value.ownBlock] using hk
              subst this
              exact ⟨.inl (.inl hP), fun he => by have : g = vb := by simpa [Value.ownBlock] using he
                                                  omega⟩
            · rw [hrl, hcl, hcur2, hcur1, ← hl1_ins l0.length i hlt, ins_list3 cur.toList (cells50 (l0.drop i)) (cells50 [x]) i ((l0.length - i) * 2) (by rw [cells50_length, List.length_singleton]) hl1 (by simp [hcs]; omega), ← htk, List.take_take, Nat.min_eq_left (by omega)]
            · exact Kd.R_mono (Kd.R_step ho2 (fun k hk _ => hfar k (fun e => hp0_2 g hP (e ▸ hk)))) (fun k hk => .inl (.inr hk))
            · exact setCells_below (setCells_below (below_drew hB) hg _ _) hg _ _
            · exact ⟨by rw [setCells_size, setCells_size]; exact Nat.le_refl _, fun k hk hn => hfar k (fun e => hn (.inl (e ▸ hP)))⟩
  · rw [if_neg hc] at h
    cases h
end Go.Proofs.YtembjjombhfglaaDoor.G
