import Derived.Test.YtembjjombhfglaaDoorGD1
import Derived.Outline
import Derived.Laws.Rows
import Derived.Laws.CopyOwn
import Derived.Deep.DeepMust
import Derived.WalkSmall
import Derived.Lib.Hide
import Derived.LoopTactic
import Derived.StillTailTactics
namespace Go.Proofs.YtembjjombhfglaaDoor.G
open Go.RowKit Go.Proofs.YtembjjombhfglaaDoorW.PrintWords Go.Proofs.YtembjjombhfglaaDoorW.PrintLast Go.Proofs.YtembjjombhfglaaDoorW.PrintMore
set_option linter.unusedVariables false
set_option linter.unusedSimpArgs false
def Arr (w : World) (g t : Nat) (W : List Int) : Prop := w.heap[g]? = some (.cells (nums .u32 W).toArray t (0, 0))
theorem Arr.cell {w : World} {g t : Nat} {W : List Int} (h : Arr w g t W) (k : Nat) (hk : k < W.length) : w.cell? ⟨g, k, none⟩ = some (.int .u32 (W[k]?.getD 0)) := by
 rw [zD h]
 simp [nums, hk]
theorem Arr.frozen {w : World} {g t : Nat} {W : List Int} (h : Arr w g t W) (k : Nat) : w.frozen? ⟨g, k, none⟩ = false := zH h k
theorem Arr.set {w : World} {g t : Nat} {W : List Int} (h : Arr w g t W) (k : Nat) (v : Int) : Arr (w.setCell ⟨g, k, none⟩ (.int .u32 v)) g t (W.set k v) :=
 (blk_set h k (.int .u32 v)).trans (by simp [nums, List.map_set])
theorem Arr.far {w : World} {g t : Nat} {W : List Int} (h : Arr w g t W) {p : Addr} (hp : g ≠ p.block) (u : Value) : Arr (w.setCell p u) g t W := blk_far h hp u
theorem Arr.drewN {w : World} {g t : Nat} {W : List Int} (h : Arr w g t W) (n : Nat) : Arr (w.drewN n) g t W := h
theorem Arr.drew {w : World} {g t : Nat} {W : List Int} (h : Arr w g t W) : Arr w.drew g t W := h
theorem Arr.alloc {w : World} {g t : Nat} {W : List Int} (h : Arr w g t W) (o : Obj) : Arr (w.alloc o) g t W := (Below.heap_alloc w o g (blk_lt h)).trans h
theorem Arr.below {w w' : World} {g t B : Nat} {W : List Int} (h : Arr w g t W) (hb : Below B w w') (hg : g < B) : Arr w' g t W := (hb.block g hg).trans h
theorem Arr.new (w : World) (t : Nat) (W : List Int) : Arr (w.alloc (.cells (nums .u32 W).toArray t)) w.heap.size t W := heap_alloc_new w _
structure Sp (w0 w : World) (W : List Int) : Prop where
 arr : Arr w (w0.heap.size + 1) 77 W
 res : Arr w w0.heap.size 77 (List.replicate 64 0)
 bel : Below w0.heap.size w0 w
def word4 (l : List Int) (k : Nat) : Nat → Int
 | 0 => 0
 | j + 1 => Go.bits .or .u32 ((word4 l k j * 256) % 4294967296) (rd l (4 * (k : Int) + (j : Int)) % 4294967296)
def sp1 (l : List Int) (k : Nat) : List Int := (List.range k).map (fun i => word4 l i 4) ++ List.replicate (64 - k) 0
def next64 (W : List Int) (n : Nat) : Int :=
 let x := W[1 + n]?.getD 0
 let y := W[14 + n]?.getD 0
 (W[n]?.getD 0 + Go.bits .xor .u32 (Go.bits .xor .u32 (turnP x 7) (turnP x 18)) (x / 8) + W[9 + n]?.getD 0 + Go.bits .xor .u32 (Go.bits .xor .u32 (turnP y 17) (turnP y 19)) (y / 1024)) % 4294967296
def sp2 (W : List Int) : Nat → List Int
 | 0 => W
 | n + 1 => (sp2 W n).set (16 + n) (next64 (sp2 W n) n)
theorem sp1_length (l : List Int) (k : Nat) (h : k ≤ 64) : (sp1 l k).length = 64 := by simp [sp1]; omega
theorem wp_tail_gen {P : Program} {id : Nat} {Q : Exit → Act → World → Prop} {a : Act} {w : World} {l : List Oper} (n : Nat) (hm : P.follows .mixedOrders = true) (hB : Region.lexTailB .any l.toArray n = true)
  (h : ∀ w2 d, w2 = { w with drawn := d } → wpStill P l.toArray w2 (fun a' => wpList P l.toArray Q (l.drop n) a' w2) (l.take n) a) : (Code.region id l.toArray true).wp P Q a w :=
 wp_region_still_tail n hm hB (h _ _ rfl)
theorem Sp.drawn {w0 w : World} {W : List Int} (h : Sp w0 w W) (d : Nat) : Sp w0 { w with drawn := d } W := ⟨h.1, h.2, h.3.trans ⟨rfl, rfl, rfl, Nat.le_refl _, fun _ _ => rfl⟩⟩
theorem sp1_get (l : List Int) (k : Nat) (h : k < 64) : (sp1 l k)[k]? = some 0 := by
 rw [sp1, List.getElem?_append_right (by simp), List.getElem?_replicate]
 simp; omega
theorem sp1_set0 (l : List Int) (k : Nat) (h : k < 64) : (sp1 l k).set k (word4 l k 0) = sp1 l k := by
 show (sp1 l k).set k 0 = _
 apply List.ext_getElem?
 intro i
 rw [List.getElem?_set]
 split
 ·
  subst i
  rw [if_pos (by rw [sp1_length l k (by omega)]; exact h)]
  exact (sp1_get l k h).symm
 · rfl
theorem sp1_set4 (l : List Int) (k : Nat) (h : k < 64) : (sp1 l k).set k (word4 l k 4) = sp1 l (k + 1) := by
 unfold sp1
 rw [List.set_append_right _ _ (by simp)]
 simp only [List.length_map, List.length_range, Nat.sub_self]
 rw [show 64 - k = (64 - (k + 1)) + 1 by omega, List.replicate_succ, List.set_cons_zero, List.range_succ]
 simp
theorem sp2_length (W : List Int) (n : Nat) : (sp2 W n).length = W.length := by
 induction n with
 | zero => rfl
 | succ n ih => simp [sp2, ih]
theorem Sp.start (w : World) : Sp w ((w.alloc (.cells (nums .u32 (List.replicate 64 0)).toArray 77)).alloc (.cells (nums .u32 (List.replicate 64 0)).toArray 77)) (List.replicate 64 0) := by
 have e : (w.alloc (.cells (nums .u32 (List.replicate 64 0)).toArray 77)).heap.size = w.heap.size + 1 := by simp
 refine ⟨?_, (Arr.new w 77 _).alloc _, ((Below.refl _ _).alloc (Nat.le_refl _) _).alloc (by rw [e]; omega) _⟩
 have := Arr.new (w.alloc (.cells (nums .u32 (List.replicate 64 0)).toArray 77)) 77 (List.replicate 64 0)
 rwa [e] at this
theorem Sp.set {w0 w : World} {W : List Int} (h : Sp w0 w W) (k : Nat) (v : Int) : Sp w0 (w.setCell ⟨w0.heap.size + 1, k, none⟩ (.int .u32 v)) (W.set k v) :=
 ⟨h.arr.set k v, h.res.far (by show w0.heap.size ≠ w0.heap.size + 1; omega) _, h.bel.setCell (by show w0.heap.size ≤ w0.heap.size + 1; omega) _⟩
theorem size77 : (Tryd.prog.info? 77).map (·.size) = some 64 := by kernel_rfl
set_option maxHeartbeats 40000000 in
set_option maxRecDepth 100000 in
theorem spread_calls (A : Option Addr) (c : Nat) (l : List Int) (w : World) (hr : Kd.C (Kd.int .u8) w A l.length l) (hc : l.length ≤ c) (hl : l.length = 64) :
  Calls Tryd.prog 76 #[.slice A l.length c] w fun e w' => e = .returned (.agg (nums .u32 (sp2 (sp1 l 16) 48)).toArray) ∧ Below w.heap.size w w' := by
 obtain ⟨ad, rfl, hcell⟩ := hr.2.2 (by omega)
 have hcl : ∀ j, j < 64 → w.cell? (ad.add j) = some (.int .u8 (rd l j)) := fun j hj => by
  obtain ⟨cs, h1, h2, h3⟩ := hcell j (rd l j) (by simp [rd, hl, hj])
  have h2' : cs = [.int .u8 (rd l j)] := h2
  subst h2'
  simpa [show (Kd.int .u8).sz = 1 from rfl] using h3 0 _ rfl
 have HL := Lib.hid hl
 rw [hl] at hc ⊢
 clear hl hr hcell
 have HC := Lib.hid hcl
 clear hcl
 go_enter Tryd.func76, Tryd.ntmps76
 go_wp2_with fail
 go_loopw [10] (fun v wr => ∃ k : Nat, k ≤ 16 ∧ v = .int .i64 k ∧ Sp w wr (sp1 l k)) (fun v _ => 16 - (intOf v).toNat)
 case atStart => exact ⟨0, by omega, rfl, Sp.start w⟩
 case round =>
  obtain ⟨k, hk, rfl, hS⟩ := hrel
  by_cases hlt : k < 16
  ·
   obtain ⟨wo, rfl⟩ : ∃ wo : World, wo = wr := ⟨_, rfl⟩
   have hc1 : ¬ (c = 4 * k) := by omega
   go_wp2_with fail
   go_loopw [21] (fun v wr => ∃ j : Nat, j ≤ 4 ∧ v = .int .i64 j ∧ Sp w wr ((sp1 l k).set k (word4 l k j))) (fun v _ => 4 - (intOf v).toNat)
   case atStart => exact ⟨0, by omega, rfl, by rw [sp1_set0 l k (by omega)]; exact hS⟩
   case round =>
    clear hS
    obtain ⟨j, hj, rfl, hS⟩ := hrel
    by_cases hjt : j < 4
    ·
     have hx : wr.cell? ((ad.add (4 * k)).add j) = some (.int .u8 (rd l (4 * k + j : Nat))) := by
      rw [add_add]; exact pw_cell_below hS.bel (HC.out _ (by omega))
     have hy : wr.cell? ⟨w.heap.size + 1, k, none⟩ = some (.int .u32 (word4 l k j)) := by
      rw [hS.arr.cell k (by rw [List.length_set, sp1_length l k (by omega)]; omega)]
      simp [sp1_length l k (by omega), show k < 64 by omega]
     have hf := hS.arr.frozen k
     have HS := Lib.hid hS
     clear hS
     go_wp2_with fail
     go_roundw
     case rel => exact ⟨j + 1, by omega, by go_num, by have := HS.out.set k (word4 l k (j + 1)); rw [List.set_set] at this; exact this⟩
     case measure => simp [intOf]; omega
    ·
     go_wp2_with fail
     go_roundw
     case rel => exact ⟨k + 1, by omega, by go_num, by rw [← sp1_set4 l k (by omega), ← show j = 4 by omega]; exact hS⟩
     case measure => simp [intOf]; omega
  ·
   have hk16 : k = 16 := by omega
   go_wp2_with fail
   generalize (Value.int IntKind.i64 (k : Int)) = v10
   go_loopw [7] (fun v wr => ∃ (n : Nat) (I : Int), n ≤ 48 ∧ v = .int .i64 I ∧ Hid (I = 16 + (n : Int)) ∧ Sp w wr (sp2 (sp1 l 16) n)) (fun v _ => 64 - (intOf v).toNat)
   case atStart => exact ⟨0, 16, by omega, rfl, Lib.hid rfl, by subst hk16; exact hS⟩
   case round =>
    clear hS
    obtain ⟨n, I, hn, rfl, hI, hS⟩ := hrel
    obtain ⟨W, hW⟩ : ∃ W, W = sp2 (sp1 l 16) n := ⟨_, rfl⟩
    rw [← hW] at hS
    have hlen : W.length = 64 := by rw [hW, sp2_length, sp1_length _ _ (by omega)]
    have HW := Lib.hid hW
    clear hW
    by_cases hnt : n < 48
    ·
     have hI0 : 0 ≤ I := by have := hI.out; omega
     have hI1 : I < 64 := by have := hI.out; omega
     have eI : I.toNat = 16 + n := by have := hI.out; omega
     have bI : IntKind.i64.wrap (I + 1) = I + 1 := by rw [IntKind.wrap_i64]; omega
     obtain ⟨J15, pJ15, qJ15, eJ15, kJ15⟩ : ∃ J : Int, 0 ≤ J ∧ J < 64 ∧ J.toNat = 1 + n ∧ IntKind.i64.wrap (I - 15) = J := ⟨I - 15, by have := hI.out; omega, by have := hI.out; omega, by have := hI.out; omega, by rw [IntKind.wrap_i64]; have := hI.out; omega⟩
     obtain ⟨J2, pJ2, qJ2, eJ2, kJ2⟩ : ∃ J : Int, 0 ≤ J ∧ J < 64 ∧ J.toNat = 14 + n ∧ IntKind.i64.wrap (I - 2) = J := ⟨I - 2, by have := hI.out; omega, by have := hI.out; omega, by have := hI.out; omega, by rw [IntKind.wrap_i64]; have := hI.out; omega⟩
     obtain ⟨J16, pJ16, qJ16, eJ16, kJ16⟩ : ∃ J : Int, 0 ≤ J ∧ J < 64 ∧ J.toNat = n ∧ IntKind.i64.wrap (I - 16) = J := ⟨I - 16, by have := hI.out; omega, by have := hI.out; omega, by have := hI.out; omega, by rw [IntKind.wrap_i64]; have := hI.out; omega⟩
     obtain ⟨J7, pJ7, qJ7, eJ7, kJ7⟩ : ∃ J : Int, 0 ≤ J ∧ J < 64 ∧ J.toNat = 9 + n ∧ IntKind.i64.wrap (I - 7) = J := ⟨I - 7, by have := hI.out; omega, by have := hI.out; omega, by have := hI.out; omega, by rw [IntKind.wrap_i64]; have := hI.out; omega⟩
     have hx := hS.arr.cell (1 + n) (by omega)
     have hy := hS.arr.cell (14 + n) (by omega)
     have HS := Lib.hid hS
     clear hS
     go_wp2_with fail
     go_quiet (fail)
     go_wp2_with fail
     refine wp_tail_gen 28 (by kernel_rfl) (by kernel_rfl) (fun w2 d hw2 => ?_)
     simp only [List.take_succ_cons, List.take_zero, List.drop_succ_cons, List.drop_zero]
     have hS2 : Sp w w2 W := by rw [hw2]; exact (show Sp w (wr.drewN _) W from ⟨HS.out.1, HS.out.2, Go.below_drewN HS.out.3 _⟩).drawn d
     clear hw2
     have h16 := hS2.arr.cell n (by omega)
     have h7 := hS2.arr.cell (9 + n) (by omega)
     have hc0 := hS2.arr.cell (16 + n) (by omega)
     have hf := hS2.arr.frozen (16 + n)
     have HS2 := Lib.hid hS2
     clear hS2
     iterate 6 still_step
     still_call (turn_calls _ 7 (by decide) (by decide) _)
     still_step
     still_call (turn_calls _ 18 (by decide) (by decide) _)
     iterate 11 still_step
     still_call (turn_calls _ 17 (by decide) (by decide) _)
     still_step
     still_call (turn_calls _ 19 (by decide) (by decide) _)
     iterate 5 still_step
     refine wpStill_nil ?_
     go_wp2_with fail
     go_roundw
     case rel => exact ⟨n + 1, I + 1, by omega, rfl, Lib.hid (by have := hI.out; omega), by have := HS2.out.set (16 + n) (next64 W n); rw [sp2, ← HW.out]; exact this⟩
     case measure => simp [intOf]; omega
    ·
     have hI1 : 64 ≤ I := by have := hI.out; omega
     clear hI
     go_wp2_with (first | refine wpList_load_row rfl 77 _ rfl (w.heap.size + 1) rfl 77 _ (0, 0) _ hS.arr (by rfl) rfl (size77.trans (by simp [nums, hlen])) ?_ | refine wpList_store_row rfl 77 (Operand.tmp 2) (Operand.tmp 77) rfl w.heap.size (nums .u32 W).toArray (by rfl) (by rfl) 77 _ hS.res (size77.trans (by simp [nums, hlen])) (by simp [nums, hlen]) (by simp [nums, Value.oneCell']) ?_)
     have hn48 : n = 48 := by omega
     subst hn48
     have hR := setRow_heap wr w.heap.size _ (nums .u32 W).toArray 77 (0, 0) hS.res
     exact bodyPost_ret (results_cell_row (by rfl) _ _ w.heap.size 77 (nums .u32 W).toArray (0, 0) _ (by rfl) hR (by rfl) rfl (size77.trans (by simp [nums, hlen]))) rfl ⟨by rw [HW.out], below_setRow hS.bel (Nat.le_refl _) _⟩
end Go.Proofs.YtembjjombhfglaaDoor.G
