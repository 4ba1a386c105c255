import Derived.Test.YtembjjombhfglaaDoorGD2
namespace Go.Proofs.YtembjjombhfglaaDoor.G
open Go.RowKit Go.Proofs.YtembjjombhfglaaDoorW.PrintWords Go.Proofs.YtembjjombhfglaaDoorW.PrintLast Go.Proofs.YtembjjombhfglaaDoorW.PrintMore
set_option linter.unusedVariables false
set_option linter.unusedSimpArgs false
def keysD : List Int := [1116352408, 1899447441, 3049323471, 3921009573, 961987163, 1508970993, 2453635748, 2870763221, 3624381080, 310598401, 607225278, 1426881987, 1925078388, 2162078206, 2614888103, 3248222580, 3835390401, 4022224774, 264347078, 604807628, 770255983, 1249150122, 1555081692, 1996064986, 2554220882, 2821834349, 2952996808, 3210313671, 3336571891, 3584528711, 113926993, 338241895, 666307205, 773529912, 1294757372, 1396182291, 1695183700, 1986661051, 2177026350, 2456956037, 2730485921, 2820302411, 3259730800, 3345764771, 3516065817, 3600352804, 4094571909, 275423344, 430227734, 506948616, 659060556, 883997877, 958139571, 1322822218, 1537002063, 1747873779, 1955562222, 2024104815, 2227730452, 2361852424, 2428436474, 2756734187, 3204031479, 3329325298]
structure GK (w : World) : Prop where
 own : ∀ j, j < 64 → w.cell? ⟨1, j, none⟩ = some (.int .u32 (rd keysD j))
 ref : ∀ j, j < 64 → w.cell? ⟨0, j, none⟩ = some (.int .u32 (rd keysD j))
theorem GK.below {w w' : World} (h : GK w) (hb : Below w.heap.size w w') : GK w' := ⟨fun j hj => pw_cell_below hb (h.own j hj), fun j hj => pw_cell_below hb (h.ref j hj)⟩
theorem wpStill_load_row {P : Program} {ops : Array Oper} {w : World} {Q : Act → Prop} {a : Act} {o : Oper} {rest : List Oper} (hgd : o.guard = none) (ty : TypeId) (x : Operand) (ho : o.op = .load ty x)
  (g : Nat) (hx : a.eval x = .pointer (some ⟨g, 0, none⟩)) (t : TypeId) (cs : Array Value) (fr : Nat × Nat) (d : TypeDesc) (hg : w.heap[g]? = some (.cells cs t fr))
  (hu : P.underlying ty = some d) (hd : (match d with | .struct _ | .array _ _ => true | _ => false) = true) (hi : (P.info? ty).map (·.size) = some cs.size)
  (h : wpStill P ops w Q rest (a.put o.dst (.agg cs))) : wpStill P ops w Q (o :: rest) a := by
 refine wpStill_step (fun K hK => ?_)
 rw [if_pos (by simp [Region.wanted, hgd])]
 unfold Oper.still execOp
 simp only [ho, hx, Instr.loadAt, Instr.sureAddr, Sem.run_bind, Sem.run_pure, Result.andThen_ok, run_loadVar_row w g t ty cs fr d hg hu hd hi]
 rw [Oper.stillUpon_value]
 exact hK _ h
def step8 : List Int → Int → Int → List Int
 | [a, b, c, d, e, f, g, s], k, x => [(stepT e f g s k x + stepU a b c) % 4294967296, a, b, c, (d + stepT e f g s k x) % 4294967296, e, f, g]
 | S, _, _ => S
theorem len8 {S : List Int} (h : S.length = 8) : ∃ a b c d e f g s, S = [a, b, c, d, e, f, g, s] := by
 match S, h with
 | [a, b, c, d, e, f, g, s], _ => exact ⟨a, b, c, d, e, f, g, s, rfl⟩
theorem step8_length (S : List Int) (k x : Int) (h : S.length = 8) : (step8 S k x).length = 8 := by
 obtain ⟨a, b, c, d, e, f, g, s, rfl⟩ := len8 h
 rfl
theorem step8_calls (S : List Int) (k x : Int) (h : S.length = 8) (w : World) : Calls Tryd.prog 77 #[.agg (nums .u32 S).toArray, .int .u32 k, .int .u32 x] w fun e' w' => e' = .returned (.agg (nums .u32 (step8 S k x)).toArray) ∧ Below w.heap.size w w' := by
 obtain ⟨a, b, c, d, e, f, g, s, rfl⟩ := len8 h
 exact step_calls a b c d e f g s k x w
def stepsP (W : List Int) (S : List Int) : Nat → List Int
 | 0 => S
 | n + 1 => step8 (stepsP W S n) (rd keysD n) (W[n]?.getD 0)
theorem stepsP_length (W S : List Int) (h : S.length = 8) (n : Nat) : (stepsP W S n).length = 8 := by
 induction n with
 | zero => exact h
 | succ n ih => exact step8_length _ _ _ ih
def addP (T S : List Int) : Nat → List Int
 | 0 => T
 | n + 1 => (addP T S n).set n (((addP T S n)[n]?.getD 0 + S[n]?.getD 0) % 4294967296)
theorem addP_length (T S : List Int) (n : Nat) : (addP T S n).length = T.length := by
 induction n with
 | zero => rfl
 | succ n ih => simp [addP, ih]
def behindP (S l : List Int) : List Int := addP (stepsP (sp2 (sp1 l 16) 48) S 64) S 8
structure Bh (w0 w : World) (S T : List Int) : Prop where
 box : Arr w w0.heap.size 102 S
 res : Arr w (w0.heap.size + 1) 102 (List.replicate 8 0)
 now : Arr w (w0.heap.size + 1 + 1) 102 T
 bel : Below w0.heap.size w0 w
theorem Bh.drawn {w0 w : World} {S T : List Int} (h : Bh w0 w S T) (d : Nat) : Bh w0 { w with drawn := d } S T := ⟨h.1, h.2, h.3, h.4.trans ⟨rfl, rfl, rfl, Nat.le_refl _, fun _ _ => rfl⟩⟩
theorem Bh.below {w0 w w' : World} {S T : List Int} (h : Bh w0 w S T) (hb : Below w.heap.size w w') : Bh w0 w' S T :=
 ⟨h.1.below hb (blk_lt h.1), h.2.below hb (blk_lt h.2), h.3.below hb (blk_lt h.3), h.4.trans (hb.mono h.4.size)⟩
theorem Arr.setRow {w : World} {g t : Nat} {W : List Int} (h : Arr w g t W) (V : List Int) : Arr (w.setRow g (nums .u32 V).toArray) g t V := setRow_heap w g _ _ t _ h
theorem Arr.setRow_far {w : World} {g t k : Nat} {W : List Int} (h : Arr w g t W) (hk : g ≠ k) (cs : Array Value) : Arr (w.setRow k cs) g t W := (setRow_other w k g cs hk).trans h
theorem Bh.row {w0 w : World} {S T : List Int} (h : Bh w0 w S T) (V : List Int) : Bh w0 (w.setRow (w0.heap.size + 1 + 1) (nums .u32 V).toArray) S V :=
 ⟨h.1.setRow_far (by omega) _, h.2.setRow_far (by omega) _, h.3.setRow V, below_setRow h.4 (by omega) _⟩
theorem Bh.set {w0 w : World} {S T : List Int} (h : Bh w0 w S T) (k : Nat) (v : Int) : Bh w0 (w.setCell ⟨w0.heap.size + 1 + 1, k, none⟩ (.int .u32 v)) S (T.set k v) :=
 ⟨h.1.far (by show w0.heap.size ≠ w0.heap.size + 1 + 1; omega) _, h.2.far (by show w0.heap.size + 1 ≠ w0.heap.size + 1 + 1; omega) _, h.3.set k v, h.4.setCell (by show w0.heap.size ≤ w0.heap.size + 1 + 1; omega) _⟩
theorem size102 : (Tryd.prog.info? 102).map (·.size) = some 8 := by kernel_rfl
theorem index77 (W : List Int) (hW : W.length = 64) (i : Nat) (hi : i < 64) (w : World) : (Instr.index 77 (.agg (nums .u32 W).toArray) (.int .i64 (i : Int))).run Tryd.prog w = .ok (.int .u32 (W[i]?.getD 0)) w := by
 have h1 : (underlying 77 : Sem TypeDesc).run Tryd.prog w = .ok (.array 64 72) w := run_underlying (by kernel_rfl) w
 have h5 : (underlying 72 : Sem TypeDesc).run Tryd.prog w = .ok (.int .u32) w := run_underlying (by kernel_rfl) w
 have h3 : (sizeOf 72 : Sem Nat).run Tryd.prog w = .ok 1 w := by kernel_rfl
 have hi2 : (0 : Int) ≤ (i : Int) ∧ (i : Int) < ((64 : Nat) : Int) := by omega
 have e : (nums IntKind.u32 W)[i]? = some (.int .u32 (W[i]?.getD 0)) := by simp [nums, hW, hi]
 unfold Instr.index
 simp only [asIntOf, Sem.run_bind, Sem.run_pure, Result.andThen_ok, h1]
 rw [if_pos hi2]
 simp only [Sem.run_bind, Sem.run_pure, Result.andThen_ok, h3]
 exact run_part_plain (P := Tryd.prog) w (e := 72) (by kernel_rfl) (by rw [Nat.mul_one, Int.toNat_natCast, List.getElem?_toArray]; exact e)
theorem Bh.start (w : World) (S : List Int) : Bh w ((((w.alloc (.cells (nums .u32 S).toArray 102)).alloc (.cells (nums .u32 (List.replicate 8 0)).toArray 102)).alloc (.cells (nums .u32 (List.replicate 8 0)).toArray 102)).setRow (w.heap.size + 1 + 1) (nums .u32 S).toArray) S S := by
 have e1 : (w.alloc (.cells (nums .u32 S).toArray 102)).heap.size = w.heap.size + 1 := by simp
 have e2 : ((w.alloc (.cells (nums .u32 S).toArray 102)).alloc (.cells (nums .u32 (List.replicate 8 0)).toArray 102)).heap.size = w.heap.size + 1 + 1 := by simp
 have a1 := Arr.new w 102 S
 have a2 := Arr.new (w.alloc (.cells (nums .u32 S).toArray 102)) 102 (List.replicate 8 0)
 have a3 := Arr.new ((w.alloc (.cells (nums .u32 S).toArray 102)).alloc (.cells (nums .u32 (List.replicate 8 0)).toArray 102)) 102 (List.replicate 8 0)
 rw [e1] at a2
 rw [e2] at a3
 exact Bh.row ⟨(a1.alloc _).alloc _, a2.alloc _, a3, (((Below.refl _ _).alloc (Nat.le_refl _) _).alloc (by rw [e1]; omega) _).alloc (by rw [e2]; omega) _⟩ S
theorem start1 (w : World) (S : List Int) : ((w.alloc (.cells (nums .u32 S).toArray 102)).alloc (.cells (nums .u32 (List.replicate 8 0)).toArray 102)).heap[w.heap.size]? = some (.cells (nums .u32 S).toArray 102 (0, 0)) := (Arr.new w 102 S).alloc _
theorem start2 (w : World) (S : List Int) : (((w.alloc (.cells (nums .u32 S).toArray 102)).alloc (.cells (nums .u32 (List.replicate 8 0)).toArray 102)).alloc (.cells (nums .u32 (List.replicate 8 0)).toArray 102)).heap[w.heap.size + 1 + 1]? = some (.cells (nums .u32 (List.replicate 8 0)).toArray 102 (0, 0)) := by
 have e2 : ((w.alloc (.cells (nums .u32 S).toArray 102)).alloc (.cells (nums .u32 (List.replicate 8 0)).toArray 102)).heap.size = w.heap.size + 1 + 1 := by simp
 have a3 := Arr.new ((w.alloc (.cells (nums .u32 S).toArray 102)).alloc (.cells (nums .u32 (List.replicate 8 0)).toArray 102)) 102 (List.replicate 8 0)
 rw [e2] at a3
 exact a3
set_option maxHeartbeats 40000000 in
set_option maxRecDepth 100000 in
theorem behind_calls (S : List Int) (hS8 : S.length = 8) (A : Option Addr) (c : Nat) (l : List Int) (w : World) (hr : Kd.C (Kd.int .u8) w A l.length l) (hc : l.length ≤ c) (hl : l.length = 64) (hG : GK w) :
  Calls Tryd.prog 65 #[.agg (nums .u32 S).toArray, .slice A l.length c] w fun e w' => e = .returned (.agg (nums .u32 (behindP S l)).toArray) ∧ Below w.heap.size w w' := by
 have HSp := fun (w1 : World) (hb : Below w.heap.size w w1) => spread_calls A c l w1 (Kd.C_below hr hb) hc hl
 have HL := Lib.hid hl
 rw [hl] at HSp ⊢
 clear hl hr hc
 have HG := Lib.hid hG
 clear hG
 obtain ⟨B, hB⟩ : ∃ B, B = (nums .u32 S).toArray := ⟨_, rfl⟩
 have hBs : B.size = 8 := by simp [hB, nums, hS8]
 have HSp' := Lib.hid HSp
 clear HSp
 rw [← hB]
 go_enter Tryd.func65, Tryd.ntmps65
 go_wp2_with (first | refine wpList_load_row rfl 102 (Operand.tmp 2) rfl w.heap.size rfl 102 (nums .u32 S).toArray (0, 0) _ (start1 w S) (by rfl) rfl (size102.trans (by simp [nums, hS8])) ?_ | refine wpList_store_row rfl 102 (Operand.tmp 5) (Operand.tmp 9) rfl (w.heap.size + 1 + 1) (nums .u32 S).toArray rfl rfl 102 _ (start2 w S) (size102.trans (by simp [nums, hS8])) (by simp [nums, hS8]) (by simp [nums, Value.oneCell']) ?_)
 refine (HSp'.out _ (Bh.start w S).bel).mono ?_
 rintro e w4 ⟨rfl, hb4⟩
 have hS4 := (Bh.start w S).below hb4
 clear hb4
 obtain ⟨W, hW⟩ : ∃ W, W = sp2 (sp1 l 16) 48 := ⟨_, rfl⟩
 have hWl : W.length = 64 := by rw [hW, sp2_length, sp1_length _ _ (by omega)]
 rw [← hW]
 clear HSp'
 obtain ⟨T1, hT1⟩ : ∃ T : Nat → List Int, T = stepsP W S := ⟨_, rfl⟩
 have hTl : ∀ i, (T1 i).length = 8 := fun i => by rw [hT1]; exact stepsP_length W S hS8 i
 have HTl := Lib.hid hTl
 have HT1 := Lib.hid hT1
 have HW := Lib.hid hW
 clear hTl hT1 hW
 go_wp2_with fail
 go_loopw [12] (fun v wr => ∃ i : Nat, i ≤ 64 ∧ v = .int .i64 i ∧ Bh w wr S (T1 i)) (fun v _ => 64 - (intOf v).toNat)
 case atStart => exact ⟨0, by omega, rfl, by rw [HT1.out]; exact hS4⟩
 case round =>
  clear hS4
  obtain ⟨i, hi, rfl, hR⟩ := hrel
  by_cases hlt : i < 64
  ·
   obtain ⟨y, hy⟩ : ∃ y, y = W[i]?.getD 0 := ⟨_, rfl⟩
   have hix := fun w1 => index77 W hWl i hlt w1
   rw [← hy] at hix
   have HY := Lib.hid hy
   clear hy
   have HR := Lib.hid hR
   clear hR
   go_wp2_with fail
   refine wp_tail_gen 5 (by kernel_rfl) (by kernel_rfl) (fun w2 d hw2 => ?_)
   simp only [List.take_succ_cons, List.take_zero, List.drop_succ_cons, List.drop_zero]
   have hR2 : Bh w w2 S (T1 i) := by rw [hw2]; exact HR.out.drawn d
   clear hw2
   have hk : w2.cell? ⟨1, i, none⟩ = some (.int .u32 (rd keysD i)) := pw_cell_below hR2.bel (HG.out.own i hlt)
   refine wpStill_load_row rfl 102 (Operand.tmp 5) rfl (w.heap.size + 1 + 1) rfl 102 (nums .u32 (T1 i)).toArray (0, 0) _ hR2.now (by rfl) rfl (size102.trans (by simp [nums, HTl.out i])) ?_
   have HR2 := Lib.hid hR2
   clear hR2
   iterate 4 still_step
   refine wpStill_nil ?_
   go_wp2_with fail
   refine (step8_calls (T1 i) _ _ (HTl.out i) _).mono ?_
   rintro e w5 ⟨rfl, hb5⟩
   have hR5 := HR2.out.below hb5
   clear hb5
   go_wp2_with (refine wpList_store_row rfl 102 (Operand.tmp 5) (Operand.tmp 21) rfl (w.heap.size + 1 + 1) (nums .u32 (step8 (T1 i) (rd keysD i) y)).toArray rfl rfl 102 _ hR5.now (size102.trans (by simp [nums, step8_length _ _ _ (HTl.out i)])) (by simp [nums, HTl.out i, step8_length _ _ _ (HTl.out i)]) (by simp [nums, Value.oneCell']) ?_)
   go_roundw
   case rel => exact ⟨i + 1, by omega, by go_num, by
    have e : T1 (i + 1) = step8 (T1 i) (rd keysD i) y := by rw [HT1.out, HY.out]; rfl
    rw [e]; exact hR5.row _⟩
   case measure => simp [intOf]; omega
  ·
   have hi64 : i = 64 := by omega
   obtain ⟨T2, hT2⟩ : ∃ T : Nat → List Int, T = addP (T1 i) S := ⟨_, rfl⟩
   have hT2l : ∀ j, (T2 j).length = 8 := fun j => by rw [hT2, addP_length]; exact HTl.out i
   have HT2l := Lib.hid hT2l
   have HT2 := Lib.hid hT2
   have HR := Lib.hid hR
   clear hT2l hT2 hR
   go_wp2_with fail
   generalize (Value.int IntKind.i64 (i : Int)) = v12
   go_loopw [23] (fun v wr => ∃ j : Nat, j ≤ 8 ∧ v = .int .i64 j ∧ Bh w wr S (T2 j)) (fun v _ => 8 - (intOf v).toNat)
   case atStart => exact ⟨0, by omega, rfl, by rw [HT2.out]; exact HR.out⟩
   case round =>
    obtain ⟨j, hj, rfl, hQ⟩ := hrel
    by_cases hjt : j < 8
    ·
     have HQ := Lib.hid hQ
     clear hQ
     go_wp2_with fail
     refine wp_tail_gen 7 (by kernel_rfl) (by kernel_rfl) (fun w2 d hw2 => ?_)
     simp only [List.take_succ_cons, List.take_zero, List.drop_succ_cons, List.drop_zero]
     have hQ2 : Bh w w2 S (T2 j) := by rw [hw2]; exact HQ.out.drawn d
     clear hw2
     have hk1 := hQ2.now.cell j (by rw [HT2l.out j]; omega)
     have hk2 := hQ2.box.cell j (by omega)
     obtain ⟨y1, hy1⟩ : ∃ y, y = (T2 j)[j]?.getD 0 := ⟨_, rfl⟩
     obtain ⟨y2, hy2⟩ : ∃ y, y = S[j]?.getD 0 := ⟨_, rfl⟩
     rw [← hy1] at hk1
     rw [← hy2] at hk2
     have HY1 := Lib.hid hy1
     have HY2 := Lib.hid hy2
     clear hy1 hy2
     have hf := hQ2.now.frozen j
     have HQ2 := Lib.hid hQ2
     clear hQ2
     iterate 7 still_step
     refine wpStill_nil ?_
     go_wp2_with fail
     go_roundw
     case rel => exact ⟨j + 1, by omega, by go_num, by
      have e : T2 (j + 1) = (T2 j).set j ((y1 + y2) % 4294967296) := by rw [HT2.out, HY1.out, HY2.out, HT2.out]; rfl
      rw [e]; exact HQ2.out.set j _⟩
     case measure => simp [intOf]; omega
    ·
     have hj8 : j = 8 := by omega
     go_wp2_with (first | refine wpList_load_row rfl 102 (Operand.tmp 5) rfl (w.heap.size + 1 + 1) rfl 102 _ (0, 0) _ hQ.now (by rfl) rfl (size102.trans (by simp [nums, HT2l.out j])) ?_ | refine wpList_store_row rfl 102 (Operand.tmp 4) (Operand.tmp 35) rfl (w.heap.size + 1) (nums .u32 (T2 j)).toArray rfl rfl 102 _ hQ.res (size102.trans (by simp [nums, HT2l.out j])) (by simp [nums, HT2l.out j]) (by simp [nums, Value.oneCell']) ?_)
     have hR := setRow_heap _ (w.heap.size + 1) _ (nums .u32 (T2 j)).toArray 102 (0, 0) hQ.res
     exact bodyPost_ret (results_cell_row (by rfl) _ _ (w.heap.size + 1) 102 (nums .u32 (T2 j)).toArray (0, 0) _ (by rfl) hR (by rfl) rfl (size102.trans (by simp [nums, HT2l.out j]))) rfl ⟨by rw [HT2.out, HT1.out, hj8, hi64, HW.out]; rfl, below_setRow hQ.bel (by omega) _⟩
end Go.Proofs.YtembjjombhfglaaDoor.G
