import Derived.Test.YtembjjombhfglaaDoorWB
import Derived.Lib.SliceRun
import Derived.Laws.IdiomCopy
import Derived.Deep.RegionLaw
import Derived.WalkKit
namespace Go.Proofs.YtembjjombhfglaaDoor.G
open Go.RowKit Go.Proofs.YtembjjombhfglaaDoorW.PrintWords Go.Proofs.YtembjjombhfglaaDoorW.PrintLast Go.Proofs.YtembjjombhfglaaDoorW.PrintMore
set_option linter.unusedVariables false
theorem blk_setCells (b : Nat) {t : TypeId} : ∀ (vs : List Value) (o : Nat) (w : World) (cur : Array Value), w.heap[b]? = some (.cells cur t (0, 0)) → o + vs.length ≤ cur.size →
  ∃ cur' : Array Value, (w.setCells b o vs).heap[b]? = some (.cells cur' t (0, 0)) ∧ cur'.toList = cur.toList.take o ++ vs ++ cur.toList.drop (o + vs.length)
 | [], o, w, cur, h, hl => ⟨cur, h, by simp⟩
 | v :: r, o, w, cur, h, hl => by
  have h1 := blk_set h o v
  simp only [List.length_cons] at hl
  obtain ⟨cur', h2, h3⟩ := blk_setCells b r (o + 1) (w.setCell ⟨b, o, none⟩ v) _ h1 (by simp; omega)
  refine ⟨cur', h2, ?_⟩
  rw [h3]
  have ho : o < cur.toList.length := by simp; omega
  simp only [Array.toList_setIfInBounds, List.length_cons]
  rw [List.take_set, List.drop_set, if_pos (by omega), List.take_succ_eq_append_getElem ho]
  have e : (cur.toList.take o ++ [cur.toList[o]]).set o v = cur.toList.take o ++ [v] := by
   have hl' : (cur.toList.take o).length = o := by rw [List.length_take]; omega
   rw [List.set_append_right _ _ (by omega), hl', Nat.sub_self]
   rfl
  rw [e, show o + 1 + r.length = o + (r.length + 1) by omega]
  simp
theorem setCells_size (b : Nat) : ∀ (vs : List Value) (o : Nat) (w : World), (w.setCells b o vs).heap.size = w.heap.size
 | [], _, _ => rfl
 | v :: r, o, w => by rw [World.setCells, setCells_size b r]; simp [World.setCell]
theorem setCells_far (b : Nat) : ∀ (vs : List Value) (o : Nat) (w : World) (k : Nat), k ≠ b → (w.setCells b o vs).heap[k]? = w.heap[k]?
 | [], _, _, _, _ => rfl
 | v :: r, o, w, k, h => by rw [World.setCells, setCells_far b r _ _ k h]; exact Below.heap_setCell w ⟨b, o, none⟩ v k h
theorem setCells_below {B : Nat} {w0 w : World} (h : Below B w0 w) {b : Nat} (hb : B ≤ b) : ∀ (vs : List Value) (o : Nat), Below B w0 (w.setCells b o vs) := by
 intro vs
 induction vs generalizing w with
 | nil => intro o; exact h
 | cons v r ih => intro o; exact ih (h.setCell (p := ⟨b, o, none⟩) hb v) (o + 1)
theorem copy_cells {P : Program} (w : World) (dT sT ty elem : TypeId) (size : Nat) (b o dLen dCap : Nat) (a : Addr) (sLen sCap : Nat) (cs : List Value)
  (hu : P.underlying dT = some (.slice elem)) (hs : (P.info? elem).map (·.size) = some size) (hn : cs.length = Nat.min sLen dLen * size)
  (hsrc : ∀ j v, cs[j]? = some v → w.cell? (a.add j) = some v) (hc : ∀ j, j < cs.length → (w.cell? ⟨b, o + j, none⟩).isSome = true) (hf : ∀ j, j < cs.length → w.frozen? ⟨b, o + j, none⟩ = false) (h1 : ∀ v ∈ cs, v.oneCell' = true) :
  (Builtin.copy_ #[dT, sT] ty #[.slice (some ⟨b, o, none⟩) dLen dCap, .slice (some a) sLen sCap]).run P w = .ok (goInt (Nat.min sLen dLen)) (w.setCells b o cs) := by
 have hl := run_loadCells_list (P := P) w a cs hsrc
 have hst := run_storeCells_cells (P := P) b o cs 0 w (by simpa using hc) (by simpa using hf) h1
 cases hq : P.info? elem with
 | none => simp [hq] at hs
 | some i =>
  have hi : i.size = size := by simpa [hq] using hs
  subst hi
  simp [Builtin.copy_, run_underlying hu, Builtin.lenOf, Builtin.firstCells, sizeOf, typeInfo, hq, ← hn, hl, hst]
theorem clear_cells {P : Program} (w : World) (t e ty : TypeId) (z : Value) (ht : P.underlying t = some (.slice e)) (hv : ∀ w, (zeroValue e).run P w = .ok z w) (zs : List Value) (b o n c : Nat) (hz : (Builtin.zeroCells z.cells n).toList = zs) (h1 : ∀ v ∈ zs, v.oneCell' = true)
  (hc : ∀ j, j < zs.length → (w.cell? ⟨b, o + j, none⟩).isSome = true) (hf : ∀ j, j < zs.length → w.frozen? ⟨b, o + j, none⟩ = false) (hn : 0 < n) :
  (Builtin.clear_ #[t] ty #[.slice (some ⟨b, o, none⟩) n c]).run P w = .ok (.tuple #[]) (w.setCells b o zs) := by
 have hst := run_storeCells_cells (P := P) b o zs 0 w (by simpa using hc) (by simpa using hf) h1
 simp only [Nat.add_zero] at hst
 obtain ⟨m, rfl⟩ : ∃ m, n = m + 1 := ⟨n - 1, by omega⟩
 simp [Builtin.clear_, run_underlying ht, hv, hz, hst]
end Go.Proofs.YtembjjombhfglaaDoor.G
