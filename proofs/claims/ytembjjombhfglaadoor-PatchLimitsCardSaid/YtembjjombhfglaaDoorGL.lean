import Derived.Test.YtembjjombhfglaaDoorRows
import Derived.Test.YtembjjombhfglaaDoorGD3
import Derived.ProofKit
import Derived.LaidMore
import Derived.OpenShut
import Derived.Stop.Joined
namespace Go.Proofs.YtembjjombhfglaaDoor.G
open Go.ChangeShapes Go.WideShapes Go.ChangeAt Go.WideMaps Go.WideElems Go.RowKit
set_option maxRecDepth 100000
def laid4 : List (String × DataW Unit) := [("grapevine/grapevineref01.keys", Rows.laid_grapevine_grapevineref01_keys), ("unicode/utf8.acceptRanges", Rows.laid_unicode_utf8_acceptRanges), ("grapevine/digest.keys", Rows.laid_grapevine_digest_keys), ("unicode/utf8.first", Rows.laid_unicode_utf8_first)]
theorem gRef : Tryd.prog.globalNamed "grapevine/grapevineref01.keys" = some 0 := by kernel_rfl
theorem gOwn : Tryd.prog.globalNamed "grapevine/digest.keys" = some 1 := by kernel_rfl
theorem tRef : (Tryd.prog.globals[0]?).map (·.type) = some 77 := by kernel_rfl
theorem tOwn : (Tryd.prog.globals[1]?).map (·.type) = some 77 := by kernel_rfl
theorem c72 : Tryd.prog.cellsOf 72 = 1 := by kernel_rfl
theorem keys_cells {W : World} {enc : TypeId × Value → Unit} {base : Nat} {spare : Nat → Bool} {held : Bool} {fuel : Nat} {cs : List Value} {x : DataW Unit × List MemPlace} (h : DataW.trod enc Tryd.prog W base spare held fuel 77 cs = some x)
  (hx : x.1 = .agg (keysD.map fun n => .lit (.int .u32 n))) (j : Nat) (hj : j < 64) : cs[j]? = some (.int .u32 (YtembjjombhfglaaDoorW.PrintWords.rd keysD j)) := by
 obtain ⟨xs, m, _, rfl, hl, hn, hel⟩ := DataW.trod_array Tryd.underlying77 h
 have h1 := hel j hj
 rw [c72, Nat.mul_one] at h1
 have hxj : j < xs.length := by omega
 rw [List.getElem?_eq_getElem hxj] at h1
 obtain ⟨n, e1, e2, _⟩ := DataW.trod_int Tryd.underlying72 h1
 simp only [DataW.agg.injEq] at hx
 have h2 : (xs.map (·.1))[j]? = (keysD.map fun n => (DataW.lit (.int .u32 n) : DataW Unit))[j]? := by rw [hx]
 rw [List.getElem?_map, List.getElem?_map, List.getElem?_eq_getElem hxj] at h2
 have hk : j < keysD.length := by show j < 64; exact hj
 rw [List.getElem?_eq_getElem hk] at h2
 simp only [Option.map_some, Option.some.injEq] at h2
 rw [e2] at h2
 simp only [DataW.lit.injEq, Lit.int.injEq] at h2
 have hc : cs[j]? = some (.int .u32 n) := by
  have : (cs.drop j).head? = some (.int .u32 n) := by
   have h3 : ((cs.drop j).take 1).head? = (cs.drop j).head? := by rw [List.head?_take, if_neg (by decide)]
   rw [← h3, e1]; rfl
  rwa [List.head?_drop] at this
 rw [hc, h2.2]
 congr 2
 simp [YtembjjombhfglaaDoorW.PrintWords.rd, List.getElem?_eq_getElem hk]
theorem GK_of_laid {W : World} (h : laidMetH Tryd.prog laid4 W) : GK W := by
 rw [MakeChecks.laidMetH_plain _ _ _ (by kernel_rfl)] at h
 obtain ⟨ps, ⟨g0, t0, cs0, f0, p0, q0, hg0, ht0, hv0, hd0, ⟨g1, t1, cs1, f1, p1, q1, hg1, ht1, hv1, hd1, ⟨g2, t2, cs2, f2, p2, q2, hg2, ht2, hv2, hd2, _, _⟩, _⟩, _⟩, _, _⟩ := h
 obtain rfl := Option.some.inj (gRef.symm.trans hg0)
 obtain rfl := Option.some.inj (gOwn.symm.trans hg2)
 obtain rfl := Option.some.inj (tRef.symm.trans ht0)
 obtain rfl := Option.some.inj (tOwn.symm.trans ht2)
 refine ⟨fun j hj => ?_, fun j hj => ?_⟩
 ·
  rw [World.var?_cell hg2 hv2 j]
  rw [← Array.getElem?_toList]
  exact keys_cells hd2 (by unfold Rows.laid_grapevine_digest_keys; rfl) j hj
 ·
  rw [World.var?_cell hg0 hv0 j]
  rw [← Array.getElem?_toList]
  exact keys_cells hd0 (by unfold Rows.laid_grapevine_grapevineref01_keys; rfl) j hj
end Go.Proofs.YtembjjombhfglaaDoor.G
