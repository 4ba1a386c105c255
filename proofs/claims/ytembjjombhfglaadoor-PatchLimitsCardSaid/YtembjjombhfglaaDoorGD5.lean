import Derived.Test.YtembjjombhfglaaDoorGD4
import Derived.Laws.CopyRow
namespace Go.Proofs.YtembjjombhfglaaDoor.G
open Go.RowKit Go.Proofs.YtembjjombhfglaaDoorW.PrintWords Go.Proofs.YtembjjombhfglaaDoorW.PrintLast Go.Proofs.YtembjjombhfglaaDoorW.PrintMore
set_option linter.unusedVariables false
set_option linter.unusedSimpArgs false
def first8 : List Int := [1779033703, 3144134277, 1013904242, 2773480762, 1359893119, 2600822924, 528734635, 1541459225]
def Hs (w : World) (g : Nat) (S : List Int) (v : Value) (m : Int) : Prop := w.heap[g]? = some (.cells (nums .u32 S ++ [v, .int .u64 m]).toArray 105 (0, 0))
def foldN : Nat → List Int → List Int → List Int
 | 0, S, _ => S
 | n + 1, S, l => foldN n (behindP S (l.take 64)) (l.drop 64)
def foldB (S l : List Int) : List Int := foldN (l.length / 64) S l
def restB (l : List Int) : List Int := l.drop (64 * (l.length / 64))
theorem foldB_step (S l : List Int) (h : 64 ≤ l.length) : foldB (behindP S (l.take 64)) (l.drop 64) = foldB S l := by
 unfold foldB
 rw [show l.length / 64 = (l.drop 64).length / 64 + 1 by rw [List.length_drop]; omega]
 rfl
theorem restB_step (l : List Int) (h : 64 ≤ l.length) : restB (l.drop 64) = restB l := by
 unfold restB
 rw [List.drop_drop, List.length_drop]
 congr 1
 omega
theorem foldB_small (S l : List Int) (h : l.length < 64) : foldB S l = S := by
 unfold foldB
 rw [show l.length / 64 = 0 by omega]
 rfl
theorem restB_small (l : List Int) (h : l.length < 64) : restB l = l := by
 unfold restB
 rw [show l.length / 64 = 0 by omega]
 rfl
theorem behindP_length (S l : List Int) (h : S.length = 8) : (behindP S l).length = 8 := by
 unfold behindP
 rw [addP_length, stepsP_length _ _ h]
theorem run_load_part {P : Program} (w : World) (g n : Nat) (t ty : TypeId) (cs : Array Value) (fr : Nat × Nat) (d : TypeDesc) (hg : w.heap[g]? = some (.cells cs t fr))
  (hu : P.underlying ty = some d) (hd : (match d with | .struct _ | .array _ _ => true | _ => false) = true) (hi : (P.info? ty).map (·.size) = some n) (hn : n ≤ cs.size) :
  (loadVar ty ⟨g, 0, none⟩).run P w = .ok (.agg (cs.toList.take n).toArray) w := by
 have hl : (loadCells ⟨g, 0, none⟩ (cs.toList.take n).length).run P w = .ok (cs.toList.take n).toArray w :=
  run_loadCells_list (P := P) w ⟨g, 0, none⟩ (cs.toList.take n) (fun j v hv => by
   have hadd : (⟨g, 0, none⟩ : Addr).add j = ⟨g, j, none⟩ := by unfold Addr.add; split <;> simp_all
   rw [hadd, cell_of_row w g j cs t fr hg]
   rw [List.getElem?_take] at hv
   split at hv
   · simpa using hv
   · cases hv)
 cases hq : P.info? ty with
 | none => simp [hq] at hi
 | some i =>
  have hs : i.size = n := by simpa [hq] using hi
  have hagg : (isAgg ty).run P w = .ok true w := by
   unfold isAgg
   rw [Sem.run_bind, run_underlying hu w]
   cases d <;> simp_all
  rw [show (cs.toList.take n).length = n by rw [List.length_take, Array.length_toList]; omega] at hl
  simp [loadVar, Sem.run_bind, hagg, sizeOf, typeInfo, hq, hs, hl]
theorem wp_load_part {P : Program} {o : Oper} {a : Act} {w : World} {K : Act → World → Prop} {Q : Exit → Act → World → Prop} (ty : TypeId) (x : Operand) (ho : o.op = .load ty x)
  (g n : Nat) (hx : a.eval x = .pointer (some ⟨g, 0, none⟩)) (t : TypeId) (cs : Array Value) (fr : Nat × Nat) (d : TypeDesc) (hg : w.heap[g]? = some (.cells cs t fr))
  (hu : P.underlying ty = some d) (hd : (match d with | .struct _ | .array _ _ => true | _ => false) = true) (hi : (P.info? ty).map (·.size) = some n) (hn : n ≤ cs.size)
  (h : K (a.put o.dst (.agg (cs.toList.take n).toArray)) w) : o.wp P a w K Q := by
 unfold Oper.wp execOp
 simp only [ho, hx, Instr.loadAt, Instr.sureAddr, Sem.run_bind, Sem.run_pure, Result.andThen_ok, run_load_part w g n t ty cs fr d hg hu hd hi hn]
 exact h
theorem wpAny_one {P : Program} {l : List Oper} {Q : Exit → Act → World → Prop} {md : Region.Mode} (i : Nat) {fuel : Nat} {listed : Array Bool} {a : Act} {w : World} (hr : Region.ready md l.toArray listed = [i])
  (hgd : (l[i]?.getD default).guard = none) (hlt : i < l.length)
  (h : ∀ K : Act → World → Prop, (∀ a w, wpAny P md l.toArray Q fuel (listed.setIfInBounds i true) a w → K a w) → (l[i]?.getD default).wp P a w K Q) : wpAny P md l.toArray Q (fuel + 1) listed a w := by
 refine wpAny_all hr (by simp) ?_
 intro j hj
 obtain rfl : j = i := by simpa using hj
 have hi : l.toArray[j]? = some (l[j]?.getD default) := by simp [hlt]
 unfold wpOp
 simp only [hi, Region.wanted, hgd, if_true]
 exact .inl (h _ (fun _ _ h => h))
theorem wpList_load_part {P : Program} {ops : Array Oper} {rest : List Oper} {o : Oper} {a : Act} {w : World} {Q : Exit → Act → World → Prop} (hgd : o.guard = none) (ty : TypeId) (x : Operand) (ho : o.op = .load ty x)
  (g n : Nat) (hx : a.eval x = .pointer (some ⟨g, 0, none⟩)) (t : TypeId) (cs : Array Value) (fr : Nat × Nat) (d : TypeDesc) (hg : w.heap[g]? = some (.cells cs t fr))
  (hu : P.underlying ty = some d) (hd : (match d with | .struct _ | .array _ _ => true | _ => false) = true) (hi : (P.info? ty).map (·.size) = some n) (hn : n ≤ cs.size)
  (h : wpList P ops Q rest (a.put o.dst (.agg (cs.toList.take n).toArray)) w) : wpList P ops Q (o :: rest) a w :=
 wpList_plain hgd fun _ hK => by
  unfold Oper.wp execOp
  simp only [ho, hx, Instr.loadAt, Instr.sureAddr, Sem.run_bind, Sem.run_pure, Result.andThen_ok, run_load_part w g n t ty cs fr d hg hu hd hi hn]
  exact hK _ _ h
theorem run_store_part {P : Program} {w : World} (ty : TypeId) (g : Nat) (cells : Array Value)
  (t : TypeId) (old : Array Value) (hg : w.heap[g]? = some (.cells old t (0, 0))) (hi : (P.info? ty).map (·.size) = some cells.size)
  (hold : cells.size ≤ old.size) (h1 : cells.all (·.oneCell') = true) :
  (storeVar ty ⟨g, 0, none⟩ (.agg cells)).run P w = .ok () (w.setRow g (cells.toList ++ old.toList.drop cells.size).toArray) := by
 have hr := run_storeCells_at (P := P) g 0 t cells.toList 0 old w hg (by simpa using hold) (fun v hv => (Array.all_eq_true_iff_forall_mem.1 h1) v (by simpa using hv))
 simp only [Nat.zero_add, List.take_zero, List.nil_append, Array.length_toList] at hr
 cases hq : P.info? ty with
 | none => simp [hq] at hi
 | some i =>
  have hs : cells.size = i.size := by simp [hq] at hi; omega
  simp [storeVar, sizeOf, typeInfo, hq, Value.cells, hs] at hr ⊢
  exact hr
theorem wp_store_part {P : Program} {o : Oper} {a : Act} {w : World} {K : Act → World → Prop} {Q : Exit → Act → World → Prop} (ty : TypeId) (x y : Operand) (ho : o.op = .store ty x y)
  (g : Nat) (cells : Array Value) (hx : a.eval x = .pointer (some ⟨g, 0, none⟩)) (hy : a.eval y = .agg cells)
  (t : TypeId) (old : Array Value) (hg : w.heap[g]? = some (.cells old t (0, 0))) (hi : (P.info? ty).map (·.size) = some cells.size)
  (hold : cells.size ≤ old.size) (h1 : cells.all (·.oneCell') = true)
  (h : K (a.put o.dst undef) (w.setRow g (cells.toList ++ old.toList.drop cells.size).toArray)) : o.wp P a w K Q := by
 unfold Oper.wp execOp
 simp only [ho, hx, hy, Instr.storeAt, Instr.sureAddr, Sem.run_bind, Sem.run_pure, Result.andThen_ok, run_store_part ty g cells t old hg hi hold h1]
 exact h
set_option maxHeartbeats 4000000 in
set_option maxRecDepth 100000 in
theorem new_calls (w : World) : Calls Tryd.prog 48 #[] w fun e w' => ∃ g, w.heap.size ≤ g ∧ e = .returned (.pointer (some ⟨g, 0, none⟩)) ∧ Hs w' g first8 (.slice none 0 0) 0 ∧ Below w.heap.size w w' := by
 go_enter Tryd.func48, Tryd.ntmps48
 go_wp2_with fail
 refine (first_calls _).mono ?_
 rintro e w4 ⟨rfl, hB⟩
 go_wp2_with fail
 go_ret
 exact ⟨w4.heap.size, hB.size, rfl, heap_alloc_new w4 _, hB.alloc hB.size _⟩
end Go.Proofs.YtembjjombhfglaaDoor.G
