import Derived.Test.YtembjjombhfglaaDoorWB
import Derived.Lib.ConvBytes
import Derived.WalkKit
namespace Go.Proofs.YtembjjombhfglaaDoor.G
open Go.RowKit Go.Proofs.YtembjjombhfglaaDoorW.PrintWords Go.Proofs.YtembjjombhfglaaDoorW.PrintLast Go.Proofs.YtembjjombhfglaaDoorW.PrintMore
set_option linter.unusedVariables false
def conv_b (s : ByteArray) : Option (List Int) := if s.size ≤ 9223372036854775807 then some (bytesOf s) else none
theorem less_swap : ∀ a b : List UInt8, (Op.bytesLess a b || a == b) = !(Op.bytesLess b a)
 | [], [] => by simp [Op.bytesLess]
 | [], _ :: _ => by simp [Op.bytesLess]
 | _ :: _, [] => by simp [Op.bytesLess]
 | a :: x, b :: y => by
  have ih := less_swap x y
  rw [Bool.eq_iff_iff] at ih ⊢
  simp only [Op.bytesLess, Bool.or_eq_true, Bool.and_eq_true, decide_eq_true_eq, beq_iff_eq, List.cons.injEq, Bool.not_eq_true', Bool.or_eq_false_iff, Bool.and_eq_false_imp, decide_eq_false_iff_not] at ih ⊢
  rcases Nat.lt_trichotomy a.toNat b.toNat with h | h | h
  ·
   have h1 : a < b := UInt8.lt_iff_toNat_lt.2 h
   have h2 : ¬ b < a := fun h3 => by have := UInt8.lt_iff_toNat_lt.1 h3; omega
   have h4 : ¬ b = a := fun h3 => by rw [h3] at h; omega
   simp [h1, h2, h4]
  ·
   have h1 : a = b := UInt8.toNat_inj.1 h
   subst h1
   have h2 : ¬ a < a := fun h3 => by have := UInt8.lt_iff_toNat_lt.1 h3; omega
   simp [h2, ih]
  ·
   have h1 : b < a := UInt8.lt_iff_toNat_lt.2 h
   have h2 : ¬ a < b := fun h3 => by have := UInt8.lt_iff_toNat_lt.1 h3; omega
   have h4 : ¬ a = b := fun h3 => by rw [h3] at h; omega
   simp [h1, h2, h4]
@[go_sem] theorem gv_string_leq (t : TypeId) (a b : ByteArray) : binOp .leq t (.string a) (.string b) = pure (.bool !(Op.bytesLess b.toList a.toList)) := by simp [binOp, Op.stringOp, less_swap]
@[go_sem] theorem gv_string_gtr (t : TypeId) (a b : ByteArray) : binOp .gtr t (.string a) (.string b) = pure (.bool (Op.bytesLess b.toList a.toList)) := by simp [binOp, Op.stringOp, less_swap]
@[go_sem] theorem gv_string_geq (t : TypeId) (a b : ByteArray) : binOp .geq t (.string a) (.string b) = pure (.bool !(Op.bytesLess a.toList b.toList)) := by simp [binOp, Op.stringOp]
section
variable {P : Program} {ops : Array Oper} {rest : List Oper} {Q : Exit → Act → World → Prop}
theorem cap_ge (W : World) (e : TypeId) (s : ByteArray) : s.size ≤ grownCap W s.size 0 e := grownCap_ge W _ _ _
theorem conv_run {src dst e : TypeId} {u : TypeDesc} (hs : P.underlying src = some u) (hd : P.underlying dst = some (.slice e)) (he : P.underlying e = some (.int .u8)) {s : ByteArray} {r : List Int} (h : conv_b s = some r) (W : World) :
  ∃ v w', (convert src dst (.string s)).run P W = .ok v w' ∧ Kd.V (Kd.int .u8) e w' W.heap.size (fun k_ => W.heap.size ≤ k_) v r ∧ Below W.heap.size W w' := by
 unfold conv_b at h
 by_cases hz : s.size ≤ 9223372036854775807
 ·
  rw [if_pos hz] at h
  obtain rfl := Option.some.inj h
  refine ⟨_, _, print_bytes src dst e hs hd he s W, ?_, bytes_below (Below.refl _ _) (Nat.le_refl _) e s⟩
  have hlen := bytesOf_length s
  refine ⟨some ⟨W.heap.size, 0, none⟩, grownCap W s.size 0 e, by rw [hlen], by rw [hlen]; exact cap_ge W e s, fun W' hW => ?_⟩
  have hrd := bytes_reads W e s hz
  have hblk : W'.heap[W.heap.size]? = (Lib.bytesWorld W e s).heap[W.heap.size]? := hW _ (Nat.le_refl _) (by rw [Lib.bytesWorld_size]; omega)
  have hcell : ∀ j, W'.cell? ⟨W.heap.size, j, none⟩ = (Lib.bytesWorld W e s).cell? ⟨W.heap.size, j, none⟩ := fun j => by simp [World.cell?, hblk]
  rw [hlen]
  refine ⟨hlen, hz, fun hp => ⟨_, rfl, fun j p hj => ⟨[.int .u8 p], rfl, rfl, fun i v hv => ?_⟩⟩⟩
  have hi : i = 0 := by
   have := (List.getElem?_eq_some_iff.1 hv).1
   simp at this
   exact this
  subst hi
  have hv' : v = .int .u8 p := by simpa using hv.symm
  subst hv'
  have hjl : j < s.size := by rw [← hlen]; exact (List.getElem?_eq_some_iff.1 hj).1
  have hz1 : (Kd.int IntKind.u8).sz = 1 := rfl
  rw [hz1, Nat.mul_one, Nat.add_zero, add_plain, hcell, Lib.bytesWorld_cell W e s j hjl]
  have h' : j < s.data.toList.length := by rw [data_length]; exact hjl
  have : p = ((s.data.toList[j]'h').toNat : Int) := by
   have := (List.getElem?_eq_some_iff.1 hj).2
   simp [bytesOf] at this
   simpa using this.symm
  rw [this, List.getD_eq_getElem?_getD, List.getElem?_eq_getElem h']
  rfl
 ·
  rw [if_neg hz] at h
  cases h
theorem gate_conv {o : Oper} {a : Act} {W : World} {src dst : TypeId} {x : Operand} (_ho : o.op = .convert src dst x) (h : wpList P ops Q (o :: rest) a W) : wpList P ops Q (o :: rest) a W := h
theorem conv_goesL {oi : Oper} {a : Act} {w : World} (N : Option Tmp) (hd : oi.dst = N) (hg : oi.guard = none) {src dst e : TypeId} {u : TypeDesc} {x : Operand} (hop : oi.op = .convert src dst x) (s : ByteArray) (hx : a.eval x = .string s)
  (hs : P.underlying src = some u) (hdt : P.underlying dst = some (.slice e)) (he : P.underlying e = some (.int .u8)) {r : List Int} (h : conv_b s = some r)
  (hk : ∀ v w', Kd.V (Kd.int .u8) e w' w.heap.size (fun k_ => w.heap.size ≤ k_) v r → Below w.heap.size w w' → wpList P ops Q rest (a.put N v) w') : wpList P ops Q (oi :: rest) a w := by
 obtain ⟨v, w', hr, hV, hB⟩ := conv_run (P := P) hs hdt he h w
 refine wpList_plain hg fun K hK => ?_
 unfold Oper.wp execOp
 simp only [hop, hx, Sem.run_bind, hr, Result.andThen_ok, Sem.run_pure]
 subst hd
 exact hK _ _ (hk v w' hV hB)
theorem conv_goesG {oi : Oper} {a : Act} {w : World} {N : Option Tmp} (hd : oi.dst = N) (hw : Region.wanted oi (yielded ops a.tmps) = true) {src dst e : TypeId} {u : TypeDesc} {x : Operand} (hop : oi.op = .convert src dst x) (s : ByteArray) (hx : a.eval x = .string s)
  (hs : P.underlying src = some u) (hdt : P.underlying dst = some (.slice e)) (he : P.underlying e = some (.int .u8)) {r : List Int} (h : conv_b s = some r)
  (hk : ∀ v w', Kd.V (Kd.int .u8) e w' w.heap.size (fun k_ => w.heap.size ≤ k_) v r → Below w.heap.size w w' → wpList P ops Q rest (a.put N v) w') : wpList P ops Q (oi :: rest) a w := by
 obtain ⟨v, w', hr, hV, hB⟩ := conv_run (P := P) hs hdt he h w
 refine wpList_step fun K hK => ?_
 rw [if_pos hw]
 unfold Oper.wp execOp
 simp only [hop, hx, Sem.run_bind, hr, Result.andThen_ok, Sem.run_pure]
 subst hd
 exact hK _ _ (hk v w' hV hB)
theorem conv_goes_ {oi : Oper} {N : Option Tmp} {a : Act} {w : World} {K : Act → World → Prop} {src dst e : TypeId} {u : TypeDesc} {x : Operand} (hw : Region.wanted oi (yielded ops a.tmps) = true) (hN : oi.dst = N) (hop : oi.op = .convert src dst x) (s : ByteArray) (hx : a.eval x = .string s)
  (hs : P.underlying src = some u) (hdt : P.underlying dst = some (.slice e)) (he : P.underlying e = some (.int .u8)) {r : List Int} (h : conv_b s = some r)
  (hk : ∀ v w', Kd.V (Kd.int .u8) e w' w.heap.size (fun k_ => w.heap.size ≤ k_) v r → Below w.heap.size w w' → K (a.put N v) w') : if Region.wanted oi (yielded ops a.tmps) = true then Oper.wp P oi a w K Q else K (a.put N undef) w := by
 obtain ⟨v, w', hr, hV, hB⟩ := conv_run (P := P) hs hdt he h w
 rw [if_pos hw]
 unfold Oper.wp execOp
 simp only [hop, hx, Sem.run_bind, hr, Result.andThen_ok, Sem.run_pure]
 subst hN
 exact hk v w' hV hB
end
end Go.Proofs.YtembjjombhfglaaDoor.G
