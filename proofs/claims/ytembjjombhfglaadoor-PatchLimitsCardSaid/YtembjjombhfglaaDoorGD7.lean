import Derived.RangeFuncNested
import Derived.RangeFuncBound
import Derived.RangeFuncCalls
import Derived.RangeFuncLeaves
import Derived.RangeFuncFrom
import Derived.Shelf.Abstract
import Derived.Shelf.RegionOpen
import Derived.WalkKit
import Derived.OwnWalkIn
import Derived.TacticsInMore
import Derived.LoopNIn
import Derived.LoopIn
import Derived.Test.YtembjjombhfglaaDoorGD6
namespace Go.Proofs.YtembjjombhfglaaDoor.G
open Go.RowKit Go.Shelf Go.Proofs.YtembjjombhfglaaDoorW.PrintWords Go.Proofs.YtembjjombhfglaaDoorW.PrintLast Go.Proofs.YtembjjombhfglaaDoorW.PrintMore
set_option linter.unusedVariables false
set_option linter.unusedSimpArgs false
attribute [local go_sem] Oper.semAt_some
def KpP (n₀ p : Nat) (W W' : World) : Prop := ∀ k, k < n₀ → k ≠ p → W'.heap[k]? = W.heap[k]?
theorem KpP.cell {n₀ p : Nat} {W W' : World} (h : KpP n₀ p W W') {a : Addr} (h1 : a.block < n₀) (h2 : a.block ≠ p) : W'.cell? a = W.cell? a := World.cell?_of_block (w := W) (h a.block h1 h2)
set_option maxRecDepth 100000 in
set_option maxHeartbeats 8000000 in
theorem chunk1_in (n : Nat) (hn : 1 ≤ n) (l Bs Bn n₀ p gb cap N : Nat) (hN : N * 64 ≤ cap) (hcap : cap ≤ 9223372036854775807) (hBs0 : Bs < n₀) (hBn0 : Bn < n₀) (hBsp : Bs ≠ p) (hBnp : Bn ≠ p) (J Jx : List Nat → World → Prop) (hJd : ∀ xs W, J xs W → J xs W.drew)
  (hY : ∀ pre x W, J pre W → pre.length < N → x < N → YieldAt Fence.wide (n - 1) Tryd.prog l #[.slice (some ⟨gb, 64 * x, none⟩) 64 64] W fun e W' =>
   (e = .returned (.bool true) ∧ J (pre ++ [x]) W' ∧ KpP n₀ p W W') ∨ (e = .returned (.bool false) ∧ Jx (pre ++ [x]) W'))
  (W : World) (hBs : W.cell? ⟨Bs, 0, none⟩ = some (.slice (some ⟨gb, 0, none⟩) (N * 64) cap)) (hBn : W.cell? ⟨Bn, 0, none⟩ = some (.int .i64 64)) (h0 : J [] W) :
  CallsIn Fence.wide n Tryd.prog 78 #[.func (.yield l) #[] #[], .pointer (some ⟨Bs, 0, none⟩), .pointer (some ⟨Bn, 0, none⟩)] W fun e W' => (∃ v, e = .returned v) ∧
   ((∃ ys, ys = List.range N ∧ J ys W') ∨ (∃ pre, pre <+: List.range N ∧ Jx pre W')) := by
 refine callsIn_of_wp Tryd.func78 rfl trivial ?_ rfl
 simp only [Tryd.ntmps78, List.size_toArray, List.length_cons, List.length_nil, Nat.reduceAdd, Nat.reduceSub, Array.replicate_succ, Array.replicate_zero, List.push_toArray, List.append_toArray, List.nil_append, List.cons_append]
 gi_wp2
 gi_loopw [4] (fun i wr => ∃ (k m : Nat), k ≤ N ∧ i = .int .i64 (m : Int) ∧ Hid (m = 64 * k) ∧ J (List.range k) wr ∧ KpP n₀ p W wr)
  (fun i _ => N * 64 - (intOf i).toNat)
 case atStart => exact ⟨0, 0, Nat.zero_le _, rfl, Lib.hid rfl, h0, fun _ _ _ => rfl⟩
 case round =>
  obtain ⟨k, m, hk, rfl, hm, hJs, hKp⟩ := hrel
  have hs' := (hKp.cell (a := ⟨Bs, 0, none⟩) hBs0 hBsp).trans hBs
  have hn' := (hKp.cell (a := ⟨Bn, 0, none⟩) hBn0 hBnp).trans hBn
  by_cases hlt : k < N
  ·
   obtain ⟨fn, tmps, assign, body, hy, hR⟩ := hY _ k wr.drew (hJd _ _ hJs) (by rw [List.length_range]; exact hlt) hlt
   obtain ⟨M, hM⟩ : ∃ M, M = N * 64 := ⟨_, rfl⟩
   rw [← hM] at hs'
   have hm1 := hm.out
   have hlt2 : (m : Int) < (M : Int) := by omega
   have hle1 : (0 : Int) ≤ (m : Int) := by omega
   have hle2 : (m : Int) ≤ (M : Int) := by omega
   have hle3 : (M : Int) ≤ (cap : Int) := by omega
   have hle4 : (m : Int) ≤ (cap : Int) := by omega
   have hne : ¬ (cap = m) := by omega
   have hmin : min (64 : Int) ((M - m : Nat) : Int) = 64 := by omega
   have htn : ((m : Int) + 64).toNat - m = 64 := by omega
   rw [← hm1] at hy
   have HM := Lib.hid hM
   clear hM hm1
   gi_wp2
   refine wpIn_wide.2 ?_
   go_region
   gi_wp2
   refine hR.mono ?_
   rintro e W3 (⟨rfl, hJ3, hk3⟩ | ⟨rfl, hJx3⟩)
   ·
    have hs3 := (hk3.cell (a := ⟨Bs, 0, none⟩) hBs0 hBsp).trans hs'
    have hn3 := (hk3.cell (a := ⟨Bn, 0, none⟩) hBn0 hBnp).trans hn'
    gi_wp2
    go_roundw
    case rel => exact ⟨k + 1, m + 64, by omega, by go_num, Lib.hid (by have := hm.out; omega), by rw [List.range_succ]; exact hJ3, fun j h1 h2 => (hk3 j h1 h2).trans (hKp j h1 h2)⟩
    case measure => have := hm.out; simp [intOf]; omega
   ·
    gi_wp2
    refine bodyPost_ret (results_none rfl _ _ _) rfl ?_
    exact ⟨⟨_, rfl⟩, .inr ⟨List.range k ++ [k], by rw [← List.range_succ]; exact ⟨(List.range (N - (k+1))).map (k + 1 + ·), by rw [← List.range_add]; congr 1; omega⟩, hJx3⟩⟩
  ·
   obtain ⟨M, hM⟩ : ∃ M, M = N * 64 := ⟨_, rfl⟩
   rw [← hM] at hs'
   have hge : ¬ ((m : Int) < (M : Int)) := by have := hm.out; omega
   have HM := Lib.hid hM
   clear hM
   gi_wp2
   go_end0
   exact ⟨⟨_, rfl⟩, .inl (by rw [← show k = N by omega]; exact hJs)⟩
set_option maxRecDepth 100000 in
set_option maxHeartbeats 4000000 in
theorem chunk_calls (A : Option Addr) (len cap : Nat) (w : World) :
  Calls Tryd.prog 66 #[.slice A len cap, .int .i64 64] w fun e w' => e = .returned (.func (.func 78) #[] #[.pointer (some ⟨w.heap.size, 0, none⟩), .pointer (some ⟨w.heap.size + 1, 0, none⟩)]) ∧ w' = (w.alloc (.cells #[.slice A len cap] 26)).alloc (.cells #[.int .i64 64] 3) := by
 go_enter Tryd.func66, Tryd.ntmps66
 go_wp2
 go_ret
 exact ⟨rfl, rfl⟩
end Go.Proofs.YtembjjombhfglaaDoor.G
