import Derived.Test.YtembjjombhfglaaDoorGD7
namespace Go.Proofs.YtembjjombhfglaaDoor.G
open Go.RowKit Go.Shelf Go.Proofs.YtembjjombhfglaaDoorW.PrintWords Go.Proofs.YtembjjombhfglaaDoorW.PrintLast Go.Proofs.YtembjjombhfglaaDoorW.PrintMore
set_option linter.unusedVariables false
set_option linter.unusedSimpArgs false
attribute [local go_sem] Oper.semAt_some
def padN (n : Nat) : Nat := (64 - (n + 8) % 64) % 64
def lenByte (m : Int) (i : Int) : Int := IntKind.u64.wrap (m * 8) / 2 ^ (8 * i).toNat % 256
def lenBytes (m : Int) (j : Nat) : List Int := (List.range j).map fun (i : Nat) => lenByte m (7 - (i : Int))
theorem under102 : Tryd.prog.underlying 102 = some (.array 8 72) := by kernel_rfl
theorem wpList_load_hs {ops : Array Oper} {rest : List Oper} {o : Oper} {a : Act} {w : World} {Q : Exit → Act → World → Prop} (hgd : o.guard = none) (x : Operand) (ho : o.op = .load 102 x)
  (g : Nat) (hx : a.eval x = .pointer (some ⟨g, 0, none⟩)) (S : List Int) (v : Value) (m : Int) (hH : Hs w g S v m) (h8 : S.length = 8)
  (h : wpList Tryd.prog ops Q rest (a.put o.dst (.agg (nums .u32 S).toArray)) w) : wpList Tryd.prog ops Q (o :: rest) a w := by
 refine wpList_load_part hgd 102 x ho g 8 hx 105 _ (0, 0) _ hH under102 rfl size102 (by simp [nums, h8]) ?_
 rw [show ((nums .u32 S ++ [v, .int .u64 m]).toArray.toList.take 8).toArray = (nums .u32 S).toArray by rw [List.take_append_of_le_length (by simp [nums, h8]), List.take_of_length_le (by simp [nums, h8])]]
 exact h
def chunkFold (S l : List Int) (pre : List Nat) : List Int := pre.foldl (fun S k => behindP S ((l.drop (64 * k)).take 64)) S
theorem chunkFold_snoc (S l : List Int) (pre : List Nat) (k : Nat) : chunkFold S l (pre ++ [k]) = behindP (chunkFold S l pre) ((l.drop (64 * k)).take 64) := by simp [chunkFold]
theorem chunkFold_length (S l : List Int) (h : S.length = 8) (pre : List Nat) : (chunkFold S l pre).length = 8 := by
 unfold chunkFold
 induction pre generalizing S with
 | nil => exact h
 | cons k pre ih => exact ih _ (behindP_length _ _ h)
theorem Arr.set8 {w : World} {g t : Nat} {a b c d e f k s : Int} (h : Arr w g t [a, b, c, d, e, f, k, s]) (a' b' c' d' e' f' k' s' : Int) :
  Arr ((((((((w.setCell ⟨g, 0, none⟩ (.int .u32 a')).setCell ⟨g, 1, none⟩ (.int .u32 b')).setCell ⟨g, 2, none⟩ (.int .u32 c')).setCell ⟨g, 3, none⟩ (.int .u32 d')).setCell ⟨g, 4, none⟩ (.int .u32 e')).setCell ⟨g, 5, none⟩ (.int .u32 f')).setCell ⟨g, 6, none⟩ (.int .u32 k')).setCell ⟨g, 7, none⟩ (.int .u32 s')) g t [a', b', c', d', e', f', k', s'] :=
 (((((((h.set 0 a').set 1 b').set 2 c').set 3 d').set 4 e').set 5 f').set 6 k').set 7 s'
theorem C_sub {w : World} {gb n o k : Nat} {l : List Int} (h : Kd.C (Kd.int .u8) w (some ⟨gb, 0, none⟩) n l) (hk : o + k ≤ l.length) (hk0 : k ≤ 9223372036854775807) : Kd.C (Kd.int .u8) w (some ⟨gb, o, none⟩) ((l.drop o).take k).length ((l.drop o).take k) := by
 have hl : ((l.drop o).take k).length = k := by rw [List.length_take, List.length_drop]; omega
 refine ⟨rfl, by rw [hl]; exact hk0, fun hp => ⟨_, rfl, fun j p hj => ?_⟩⟩
 obtain ⟨ad, e, hcell⟩ := h.2.2 (by have := h.1; omega)
 injection e with e
 subst e
 have hj64 : j < k := by have := (List.getElem?_eq_some_iff.1 hj).1; omega
 rw [List.getElem?_take, if_pos hj64, List.getElem?_drop] at hj
 obtain ⟨cs, h1, h2, h3⟩ := hcell (o + j) p hj
 refine ⟨cs, h1, h2, fun i u hu => ?_⟩
 have h4 := h3 i u hu
 have e : ∀ a n, (⟨gb, a, none⟩ : Addr).add n = ⟨gb, a + n, none⟩ := fun a n => by unfold Addr.add; split <;> simp_all
 rw [e, show (Kd.int .u8).sz = 1 from rfl] at h4 ⊢
 rw [show o + (j * 1 + i) = 0 + ((o + j) * 1 + i) by omega]
 exact h4
def outBytes (T : List Int) (n : Nat) : List Int := (List.range n).flatMap fun i => [(T[i]?.getD 0) / 16777216 % 256, (T[i]?.getD 0) / 65536 % 256, (T[i]?.getD 0) / 256 % 256, (T[i]?.getD 0) % 256]
def sumB (m : Int) (rest : List Int) : List Int := rest ++ [128] ++ List.replicate (padN (rest.length + 1)) 0 ++ lenBytes m 8
def sumF (S : List Int) (m : Int) (rest : List Int) : List Int := outBytes (chunkFold S (sumB m rest) (List.range ((sumB m rest).length / 64))) 8
theorem outBytes_length (T : List Int) (n : Nat) : (outBytes T n).length = 4 * n := by
 induction n with
 | zero => rfl
 | succ n ih =>
  unfold outBytes at ih ⊢
  rw [List.range_succ, List.flatMap_append, List.length_append, ih]
  simp
  omega
theorem C_lit {w : World} {g : Nat} {xs : List Int} {e : TypeId} {fr : Nat × Nat} (h : w.heap[g]? = some (.cells (nums .u8 xs).toArray e fr)) (hx : xs.length ≤ 9223372036854775807) : Kd.C (Kd.int .u8) w (some ⟨g, 0, none⟩) xs.length xs :=
 ⟨rfl, hx, fun _ => ⟨_, rfl, fun j p hj => ⟨[.int .u8 p], rfl, rfl, fun i u hu => by
  have e2 : ∀ n, (⟨g, 0, none⟩ : Addr).add n = ⟨g, n, none⟩ := fun n => by unfold Addr.add; split <;> simp_all
  match i, hu with
  | 0, hu =>
   simp only [List.getElem?_cons_zero, Option.some.injEq] at hu
   subst hu
   rw [e2, show (Kd.int .u8).sz = 1 from rfl, cell_of_row w g _ _ e fr h]
   simp [nums, hj]⟩⟩⟩
theorem R_empty {w : World} {base g cap : Nat} {cur : Array Value} (h : w.heap[g]? = some (.cells cur 5 (0, 0))) (hs : cur.size = cap) (hc : cap ≤ maxLen) (hb : base ≤ g) : Kd.R (Kd.int .u8) 5 w base (fun _ => True) (.slice (some ⟨g, 0, none⟩) 0 cap) [] :=
 ⟨fun _ _ => trivial, [], ⟨by simp, .inr ⟨g, cap, cur, rfl, hb, h, Nat.zero_le _, hc, by rw [hs]; show cap = cap * 1; omega, by simp⟩⟩, Reps.none _ _⟩
theorem index102 (W : List Int) (hW : W.length = 8) (i : Nat) (hi : i < 8) (w : World) : (Instr.index 102 (.agg (nums .u32 W).toArray) (.int .i64 (i : Int))).run Tryd.prog w = .ok (.int .u32 (W[i]?.getD 0)) w := by
 have h1 : (underlying 102 : Sem TypeDesc).run Tryd.prog w = .ok (.array 8 72) w := run_underlying under102 w
 have h3 : (sizeOf 72 : Sem Nat).run Tryd.prog w = .ok 1 w := by kernel_rfl
 have hi2 : (0 : Int) ≤ (i : Int) ∧ (i : Int) < ((8 : Nat) : Int) := by omega
 have e : (nums IntKind.u32 W)[i]? = some (.int .u32 (W[i]?.getD 0)) := by simp [nums, hW, hi]
 unfold Instr.index
 simp only [asIntOf, Sem.run_bind, Sem.run_pure, Result.andThen_ok, h1]
 rw [if_pos hi2]
 simp only [Sem.run_bind, Sem.run_pure, Result.andThen_ok, h3]
 exact run_part_plain (P := Tryd.prog) w (e := 72) (by kernel_rfl) (by rw [Nat.mul_one, Int.toNat_natCast, List.getElem?_toArray]; exact e)
theorem rf_wrap {g : Operand} {ps : Array Tmp} {assign body : Code} {Q : Exit → Act → World → Prop} {a : Act} {w : World} {F : Fence} {n : Nat} {P : Program}
  (h : ∀ a0, a0 = a → (Code.rangeFunc g ps assign body).wpIn F n P Q a0 w) : (Code.rangeFunc g ps assign body).wpIn F n P Q a w := h a rfl
theorem chunk_stops (n : Nat) (hn : 1 ≤ n) (Bs Bn n₀ p gb cap N : Nat) (hN : N * 64 ≤ cap) (hcap : cap ≤ 9223372036854775807) (hBs0 : Bs < n₀) (hBn0 : Bn < n₀) (hBsp : Bs ≠ p) (hBnp : Bn ≠ p) (w : World) (hn0 : n₀ ≤ w.heap.size)
  (hBs : w.cell? ⟨Bs, 0, none⟩ = some (.slice (some ⟨gb, 0, none⟩) (N * 64) cap)) (hBn : w.cell? ⟨Bn, 0, none⟩ = some (.int .i64 64)) :
  SeqStopsK Fence.wide n Tryd.prog 78 #[.pointer (some ⟨Bs, 0, none⟩), .pointer (some ⟨Bn, 0, none⟩)] (fun x : Nat => #[Value.slice (some ⟨gb, 64 * min x (N - 1), none⟩) 64 64]) (KpP n₀ p) (fun ys => ys = List.range N) (fun pre => pre <+: List.range N) N w :=
 fun l J Jx W hW hJ hJx hY h0 => chunk1_in n hn l Bs Bn n₀ p gb cap N hN hcap hBs0 hBn0 hBsp hBnp J Jx
  (fun xs W' h => hJ xs W' W'.drew none h ⟨rfl, rfl, rfl, Nat.le_refl _, fun _ _ _ => rfl⟩ (fun r e => by cases e)) (fun pre x W1 h1 h2 h3 => by have := hY pre x W1 h1 h2; dsimp only at this; rwa [show min x (N - 1) = x by omega] at this) W ((hW.cell (p := ⟨Bs, 0, none⟩) (by show Bs < _; omega)).trans hBs) ((hW.cell (p := ⟨Bn, 0, none⟩) (by show Bn < _; omega)).trans hBn) h0
set_option maxRecDepth 100000 in
set_option maxHeartbeats 8000000 in
theorem sum_calls (g : Nat) (S : List Int) (h8 : S.length = 8) (v : Value) (m : Int) (hm0 : 0 ≤ m) (rest : List Int) (hl : rest.length < 64) (B : Nat) (w : World) (hH : Hs w g S v m)
  (hR : Kd.R (Kd.int .u8) 5 w B (fun _ => True) v rest) (hgB : g < B) (hB : B ≤ w.heap.size) (hG : GK w) :
  Calls Tryd.prog 50 #[.pointer (some ⟨g, 0, none⟩)] w fun e w' => e = .returned (.string (strOfNums (sumF S m rest))) ∧ Below w.heap.size w w' := by
 refine (callsIn_wide (n := 4)).1 ?_
 refine callsIn_of_wp_marks Tryd.func50 rfl trivial ?_ rfl
 simp only [Tryd.ntmps50, List.size_toArray, List.length_cons, List.length_nil, Nat.reduceAdd, Nat.reduceSub, Array.replicate_succ, Array.replicate_zero, List.push_toArray, List.append_toArray, List.nil_append, List.cons_append]
 refine wpIn_wide.2 ?_
 have hcell := hH.rest h8
 obtain ⟨A0, c0, rfl, hc0, hC0⟩ := Kd.R_reads hR
 have hcl := clone_bytes.calls A0 c0 rest rest w hC0 hc0 (by unfold clone_bytes.f; rw [if_pos (by omega)])
 have HCl := Lib.hid hcl
 have HH := Lib.hid hH
 have HG := Lib.hid hG
 clear hcl hH hG hC0 hR
 go_wp2_with fail
 refine HCl.out.mono ?_
 rintro e w1 ⟨v14, rfl, hR1, hB1⟩
 have HR1 := Lib.hid hR1
 have HB1 := Lib.hid hB1
 clear hR1 hB1 HCl
 have hk5 : rest.length + 1 ≤ 140737488355328 := by omega
 go_wp2_with ((with_reducible refine gate_builtin (b := .append) (xs := #[.tmp 14, .tmp 15]) rfl ?_); at_builtin; refine Kd.R_append (Kd.int .u8) (w0 := w) w.heap.size rfl (.tmp 14) (.tmp 15) 26 5 (.int .u8 0) 1 rfl Tryd.underlying26 info5 rfl (by decide) (by omega) v14 rest 128 [.int .u8 128] (fun _ => True) (fun _ => False) rfl rfl rfl (fun _ hk => hk.elim) (fun _ _ => trivial) HR1.out HB1.out HB1.out.size (by omega) ?_; intro v16 w2 ho hb hg hat; have HR2 := Lib.hid ho; have HB2 := Lib.hid hb; clear ho hb hg hat)
 obtain ⟨n0, hn0⟩ : ∃ n0, n0 = rest.length + 1 := ⟨_, rfl⟩
 have HN0 := Lib.hid hn0
 have hb0 : (rest ++ [128]).length = n0 := by simp [hn0]
 have hn64 : n0 ≤ 64 := by omega
 obtain ⟨b0, hbb⟩ : ∃ b0, b0 = rest ++ [(128 : Int)] := ⟨_, rfl⟩
 rw [← hbb] at HR2 hb0
 have HBB := Lib.hid hbb
 clear hbb hn0
 go_loopw [3] (fun v3 wr => ∃ j : Nat, j ≤ padN n0 ∧ Kd.R (Kd.int .u8) 5 wr w.heap.size (fun _ => True) v3 (b0 ++ List.replicate j 0) ∧ Below w.heap.size w wr) (fun v3 _ => match v3 with | .slice _ n _ => 256 - n | _ => 0)
 case atStart => exact ⟨0, Nat.zero_le _, by simpa using HR2.out, HB2.out⟩
 case round =>
  clear HR2 HB2 HR1 HB1
  obtain ⟨j, hj, hRj, hBj⟩ := hrel
  obtain ⟨A3, c3, rfl, hc3, hC3⟩ := Kd.R_reads hRj
  clear hC3
  obtain ⟨L, hL⟩ : ∃ L, L = (b0 ++ List.replicate j 0).length := ⟨_, rfl⟩
  have hL2 : L = n0 + j := by rw [hL]; simp [hb0]
  have hpad : padN n0 ≤ 63 := by unfold padN; omega
  have hLb : L ≤ 200 := by omega
  rw [← hL] at hRj hc3 ⊢
  have HRj := Lib.hid hRj
  have HBj := Lib.hid hBj
  have HLL := Lib.hid hL
  clear hRj hBj hL
  by_cases hz : (L + 8) % 64 = 0
  ·
   have hjp : j = padN n0 := by unfold padN at hj ⊢; omega
   have ht : Int.tmod ((L : Int) + 8) 64 = 0 := by rw [Int.tmod_eq_emod_of_nonneg (by omega)]; omega
   clear hL2
   go_wp2_with fail
   subst hjp
   obtain ⟨b1, hb1⟩ : ∃ b1, b1 = b0 ++ List.replicate (padN n0) (0 : Int) := ⟨_, rfl⟩
   have hb1l : b1.length ≤ 200 := by rw [hb1, ← HLL.out]; exact hLb
   rw [← hb1] at HRj
   have HB1 := Lib.hid hb1
   clear hb1
   go_loopw [3, 4] (fun v3 v4 wr => ∃ (i : Nat) (I : Int), i ≤ 8 ∧ v4 = .int .i64 I ∧ Hid (I = 7 - (i : Int)) ∧ Kd.R (Kd.int .u8) 5 wr w.heap.size (fun _ => True) v3 (b1 ++ lenBytes m i) ∧ Below w.heap.size w wr) (fun _ v4 _ => (intOf v4 + 1).toNat)
   case atStart => exact ⟨0, 7, by omega, rfl, Lib.hid rfl, by simpa [lenBytes] using HRj.out, HBj.out⟩
   case round =>
    clear HRj HBj hcell
    obtain ⟨i, I, hi, rfl, hI, hRi, hBi⟩ := hrel
    obtain ⟨A4, c4, rfl, hc4, hC4⟩ := Kd.R_reads hRi
    clear hC4
    have hmany := pw_cell_below hBi (HH.out.many h8)
    obtain ⟨L4, hL4⟩ : ∃ L, L = (b1 ++ lenBytes m i).length := ⟨_, rfl⟩
    have hL4b : L4 ≤ 208 := by rw [hL4]; simp [lenBytes]; omega
    rw [← hL4] at hRi hc4 ⊢
    have hk7 : (b1 ++ lenBytes m i).length + 1 ≤ 140737488355328 := by rw [← hL4]; omega
    have HRi := Lib.hid hRi
    have HBi := Lib.hid hBi
    have HL4 := Lib.hid hL4
    clear hRi hBi hL4
    by_cases hi8 : i < 8
    ·
     have hI0 : 0 ≤ I := by have := hI.out; omega
     have hI7 : I ≤ 7 := by have := hI.out; omega
     go_wp2_with ((with_reducible refine gate_builtin (b := .append) (xs := #[.tmp 29, .tmp 39]) rfl ?_); at_builtin; go_must (refine Kd.R_append (Kd.int .u8) (w0 := w) w.heap.size rfl (.tmp 29) (.tmp 39) 26 5 (.int .u8 0) 1 rfl Tryd.underlying26 info5 rfl (by decide) (by omega) (.slice A4 L4 c4) (b1 ++ lenBytes m i) (lenByte m I) [.int .u8 (lenByte m I)] (fun _ => True) (fun _ => False) rfl rfl rfl (fun _ hk => hk.elim) (fun _ _ => trivial) HRi.out HBi.out HBi.out.size (by omega) ?_; intro v40 w4 ho hb hg hat; have HR4 := Lib.hid ho; have HB4 := Lib.hid hb; clear ho hb hg hat))
     go_roundw
     case rel => exact ⟨i + 1, I - 1, by omega, by go_num, Lib.hid (by have := hI.out; omega), by
      have e : lenBytes m (i + 1) = lenBytes m i ++ [lenByte m I] := by
       unfold lenBytes
       rw [List.range_succ, List.map_append, hI.out]
       rfl
      rw [e, ← List.append_assoc]; exact HR4.out, HB4.out⟩
     case measure => simp [intOf]; omega
    ·
     have hI0 : ¬ (0 ≤ I) := by have := hI.out; omega
     obtain rfl : i = 8 := by omega
     have hHr := HH.out.below HBi.out (by omega)
     have hgr := blk_lt hHr
     have hnew := Arr.new wr 102 (List.replicate 8 0)
     go_wp2_with (first | refine wpList_load_hs rfl (Operand.tmp 43) rfl g rfl S _ m hHr h8 ?_ | refine wpList_store_row rfl 102 (Operand.tmp 5) (Operand.tmp 44) rfl wr.heap.size (nums .u32 S).toArray rfl rfl 102 _ hnew (size102.trans (by simp [nums, h8])) (by simp [nums, h8]) (by simp [nums, Value.oneCell']) ?_)
     have hch := chunk_calls A4 L4 c4 ((wr.alloc (.cells (nums .u32 (List.replicate 8 0)).toArray 102)).setRow wr.heap.size (nums .u32 S).toArray)
     refine hch.mono ?_
     rintro e w6 ⟨rfl, hw6⟩
     have hL4m : (L4 : Nat) % 64 = 0 := by
      rw [HL4.out, List.length_append, HB1.out, List.length_append, List.length_replicate, hb0]
      simp only [lenBytes, List.length_map, List.length_range]
      unfold padN
      omega
     obtain ⟨N, hN⟩ : ∃ N, L4 = N * 64 := ⟨L4 / 64, by omega⟩
     obtain ⟨gb, cap, e4, hgb1, hgb2, cells, hgb3⟩ := Kd.R_form HRi.out (by rw [← HL4.out]; have := HL4.out; rw [List.length_append, HB1.out, List.length_append, hb0] at this; have h0 := HN0.out; omega)
     injection e4 with e5 e6 e7
     subst e5
     subst e7
     have hsz5 : ((wr.alloc (.cells (nums .u32 (List.replicate 8 0)).toArray 102)).setRow wr.heap.size (nums .u32 S).toArray).heap.size = wr.heap.size + 1 := by simp
     obtain ⟨w5, hw5⟩ : ∃ w5, w5 = (wr.alloc (.cells (nums .u32 (List.replicate 8 0)).toArray 102)).setRow wr.heap.size (nums .u32 S).toArray := ⟨_, rfl⟩
     have hA5 : Arr w5 wr.heap.size 102 S := by rw [hw5]; exact Arr.setRow hnew S
     have hB5 : Below wr.heap.size wr w5 := by rw [hw5]; exact below_setRow ((Below.refl _ wr).alloc (Nat.le_refl _) _) (Nat.le_refl _) _
     rw [← hw5] at hsz5 hw6 ⊢
     have hc5 := heap_alloc_new w5 (.cells #[.slice (some ⟨gb, 0, none⟩) L4 c4] 26)
     have hc6 := heap_alloc_new (w5.alloc (.cells #[.slice (some ⟨gb, 0, none⟩) L4 c4] 26)) (.cells #[.int .i64 64] 3)
     have hc56 := Below.heap_alloc (w5.alloc (.cells #[.slice (some ⟨gb, 0, none⟩) L4 c4] 26)) (.cells #[.int .i64 64] 3) w5.heap.size (by simp)
     rw [World.size_alloc] at hc6
     have hsz6 : w6.heap.size = wr.heap.size + 3 := by rw [hw6]; simp [hsz5]
     have hB6 : Below wr.heap.size wr w6 := by rw [hw6]; exact (hB5.alloc (by omega) _).alloc (by simp; omega) _
     have hA6 : Arr w6 wr.heap.size 102 S := by rw [hw6]; exact (hA5.alloc _).alloc _
     rw [← hw6] at hc6 hc56
     have hcs : w6.cell? ⟨wr.heap.size + 1, 0, none⟩ = some (.slice (some ⟨gb, 0, none⟩) (N * 64) c4) := by
      rw [hc5, hsz5] at hc56
      rw [zD hc56, ← hN]; rfl
     have hcn : w6.cell? ⟨wr.heap.size + 1 + 1, 0, none⟩ = some (.int .i64 64) := by
      rw [hsz5] at hc6
      rw [zD hc6]; rfl
     have hc4m : c4 ≤ 9223372036854775807 := by
      obtain ⟨_, inner, ho, _⟩ := HRi.out
      rcases ho.2 with ⟨he, _⟩ | ⟨g', cap', cur, he, _, _, _, hm', _⟩
      · cases he
      · injection he with _ _ e; rw [e]; exact hm'
     have hbl4 : (b1 ++ lenBytes m 8).length = N * 64 := by rw [← HL4.out, hN]
     have HA6 := Lib.hid hA6
     have HB6 := Lib.hid hB6
     have HW6 := Lib.hid hsz6
     clear hc5 hc6 hc56 hw6 hA6 hB6 hA5 hB5 hw5 hnew hHr hgb3 hgb2 hch
     rw [hsz5]
     go_wp2_with fail
     refine (wpIn_wide (n := 4)).1 ?_
     refine rf_wrap (fun a0 ha0 => ?_)
     refine wpIn_rangeFunc_ownF rfl (by decide) (gf := 78) (lb := #[.pointer (some ⟨wr.heap.size + 1, 0, none⟩), .pointer (some ⟨wr.heap.size + 1 + 1, 0, none⟩)]) (by rw [ha0]; rfl) trivial (enters_of Tryd.func78 (by kernel_rfl) rfl)
      (chunk_stops 3 (by decide) (wr.heap.size + 1) (wr.heap.size + 1 + 1) (wr.heap.size + 3) wr.heap.size gb c4 N (by omega) hc4m (by omega) (by omega) (by omega) (by omega) w6 (by omega) hcs hcn)
      (fun h k j h1 h2 => (k j h1 h2).trans (h j h1 h2))
      (fun W l o o' hl hW _ _ j h1 h2 => World.putObj_heap_other (by omega))
      (Below.refl _ _) (fun _ => rfl)
      (fun pre W => Arr W wr.heap.size 102 (chunkFold S (b1 ++ lenBytes m 8) (pre.map (min · (N - 1)))) ∧ Below wr.heap.size wr W ∧ wr.heap.size + 3 ≤ W.heap.size)
      (fun _ _ _ => False)
      (fun s W W' row hs hg hr => ⟨(hg.block wr.heap.size (blk_lt hs.1) (fun e => by have := (hr _ e.symm).1; omega)).trans hs.1, hs.2.1.grown hg hs.2.1.size (fun k e => by have := (hr k e).1; omega), Nat.le_trans hs.2.2 hg.size⟩)
      (fun _ _ _ _ _ hs _ _ => hs)
      ⟨HA6.out, HB6.out, by omega⟩
      (fun x => (a0.put (some 47) (.slice (some ⟨gb, 64 * min x (N - 1), none⟩) 64 64)).put (some 6) (.slice (some ⟨gb, 64 * min x (N - 1), none⟩) 64 64)) ?assign ?body ?done ?stop
     case assign =>
      subst ha0
      intro l x W K hK
      gi_wp2
      exact hK
     case body =>
      subst ha0
      rintro l pre x W ⟨hA, hB, hWs⟩ hlen
      obtain ⟨y, hy⟩ : ∃ y, y = min x (N - 1) := ⟨_, rfl⟩
      have hyN : y < N := by omega
      rw [← hy]
      obtain ⟨o, ho⟩ : ∃ o, o = 64 * y := ⟨_, rfl⟩
      rw [← ho]
      obtain ⟨bb, hbb⟩ : ∃ bb, bb = b1 ++ lenBytes m 8 := ⟨_, rfl⟩
      rw [← hbb] at hA HRi hbl4
      have hch8 := chunkFold_length S bb h8 (pre.map (min · (N - 1)))
      obtain ⟨t0, t1, t2, t3, t4, t5, t6, t7, hT⟩ := len8 hch8
      have hCx : Kd.C (Kd.int .u8) W (some ⟨gb, o, none⟩) ((bb.drop o).take 64).length ((bb.drop o).take 64) := by
       have hRW := Kd.R_below HRi.out hB
       obtain ⟨A', c', e1, _, hC⟩ := Kd.R_reads hRW
       injection e1 with e2 _ _
       subst e2
       exact C_sub hC (by rw [hbl4]; omega) (by omega)
      have hx64 : ((bb.drop o).take 64).length = 64 := by rw [List.length_take, List.length_drop, hbl4]; omega
      have hbe := behind_calls [t0, t1, t2, t3, t4, t5, t6, t7] rfl (some ⟨gb, o, none⟩) 64 ((bb.drop o).take 64) W hCx (by omega) hx64 ((HG.out.below HBi.out).below hB)
      rw [hx64] at hbe
      obtain ⟨u0, u1, u2, u3, u4, u5, u6, u7, hU⟩ := len8 (behindP_length [t0, t1, t2, t3, t4, t5, t6, t7] ((bb.drop o).take 64) rfl)
      rw [hU] at hbe
      rw [hT] at hA
      have hfin : chunkFold S (b1 ++ lenBytes m 8) ((pre ++ [x]).map (min · (N - 1))) = [u0, u1, u2, u3, u4, u5, u6, u7] := by
       rw [List.map_append, List.map_cons, List.map_nil, chunkFold_snoc, ← hbb, hT, ← hy, ← ho, hU]
      have HFin := Lib.hid hfin
      have HBe := Lib.hid hbe
      have c0 := hA.cell 0 (by simp)
      have c1 := hA.cell 1 (by simp)
      have c2 := hA.cell 2 (by simp)
      have c3 := hA.cell 3 (by simp)
      have c4 := hA.cell 4 (by simp)
      have c5 := hA.cell 5 (by simp)
      have c6 := hA.cell 6 (by simp)
      have c7 := hA.cell 7 (by simp)
      simp only [List.getElem?_cons_zero, List.getElem?_cons_succ, Option.getD_some] at c0 c1 c2 c3 c4 c5 c6 c7
      have HA := Lib.hid hA
      have HBB2 := Lib.hid hB
      clear hA hB hbe hCx hT hU hbb hy ho hfin
      gi_wp2
      refine ⟨trivial, (CallsIn.inRound l (callsIn_wide.2 HBe.out)).mono ?_⟩
      rintro e W5 ⟨rfl, hb5⟩
      have hA5 := HA.out.below hb5 (blk_lt HA.out)
      have d0 := hA5.cell 0 (by simp)
      have d1 := hA5.cell 1 (by simp)
      have d2 := hA5.cell 2 (by simp)
      have d3 := hA5.cell 3 (by simp)
      have d4 := hA5.cell 4 (by simp)
      have d5 := hA5.cell 5 (by simp)
      have d6 := hA5.cell 6 (by simp)
      have d7 := hA5.cell 7 (by simp)
      simp only [List.getElem?_cons_zero, List.getElem?_cons_succ, Option.getD_some] at d0 d1 d2 d3 d4 d5 d6 d7
      have f0 := hA5.frozen 0
      have f1 := hA5.frozen 1
      have f2 := hA5.frozen 2
      have f3 := hA5.frozen 3
      have f4 := hA5.frozen 4
      have f5 := hA5.frozen 5
      have f6 := hA5.frozen 6
      have f7 := hA5.frozen 7
      have HA5 := Lib.hid hA5
      have Hb5 := Lib.hid hb5
      clear hA5 hb5 HBe c0 c1 c2 c3 c4 c5 c6 c7
      rw [show (nums .u32 [u0, u1, u2, u3, u4, u5, u6, u7]).toArray = #[.int .u32 u0, .int .u32 u1, .int .u32 u2, .int .u32 u3, .int .u32 u4, .int .u32 u5, .int .u32 u6, .int .u32 u7] from rfl]
      gi_wp2
      refine ⟨?_, ?_, ?_, ?_, ?_⟩
      ·
       have k0 : KeepsOthers W W5 := ⟨Hb5.out.size, fun k o h _ => by rw [Hb5.out.block k (Array.getElem?_eq_some_iff.1 h).1]; exact h⟩
       exact (((((((k0.trans (KeepsOthers.setCell _ _ _)).trans (KeepsOthers.setCell _ _ _)).trans (KeepsOthers.setCell _ _ _)).trans (KeepsOthers.setCell _ _ _)).trans (KeepsOthers.setCell _ _ _)).trans (KeepsOthers.setCell _ _ _)).trans (KeepsOthers.setCell _ _ _)).trans (KeepsOthers.setCell _ _ _)
      ·
       intro k h1 h2
       rw [Below.heap_setCell _ _ _ _ h2, Below.heap_setCell _ _ _ _ h2, Below.heap_setCell _ _ _ _ h2, Below.heap_setCell _ _ _ _ h2, Below.heap_setCell _ _ _ _ h2, Below.heap_setCell _ _ _ _ h2, Below.heap_setCell _ _ _ _ h2, Below.heap_setCell _ _ _ _ h2]
       exact Hb5.out.block k (by omega)
      ·
       rw [HFin.out]
       exact HA5.out.set8 u0 u1 u2 u3 u4 u5 u6 u7
      ·
       have k1 : Below wr.heap.size wr W5 := HBB2.out.trans (Hb5.out.mono (by omega))
       exact (((((((k1.setCell (Nat.le_refl _) _).setCell (Nat.le_refl _) _).setCell (Nat.le_refl _) _).setCell (Nat.le_refl _) _).setCell (Nat.le_refl _) _).setCell (Nat.le_refl _) _).setCell (Nat.le_refl _) _).setCell (Nat.le_refl _) _
      ·
       have := Hb5.out.size
       simp only [World.size_setCell]
       omega
     case done =>
      rintro D xs W hD rfl ⟨hA, hB, hWs⟩ hK
      subst ha0
      have hA7 : Arr W wr.heap.size 102 (chunkFold S (b1 ++ lenBytes m 8) (List.range N)) := by
       rw [show (List.range N).map (fun x => min x (N - 1)) = List.range N from by
        rw [List.map_congr_left (g := id) (fun x hx => by have := List.mem_range.1 hx; show min x (N - 1) = x; omega), List.map_id]] at hA
       exact hA
      obtain ⟨T, hT⟩ : ∃ T, T = chunkFold S (b1 ++ lenBytes m 8) (List.range N) := ⟨_, rfl⟩
      have hT8 : T.length = 8 := by rw [hT]; exact chunkFold_length _ _ h8 _
      rw [← hT] at hA7
      have HT := Lib.hid hT
      have HB7 := Lib.hid hB
      have HK := Lib.hid hK
      clear hA hB hT hK
      have hmk : ∀ w, (Instr.makeSlice 26 (.int .i64 0) (.int .i64 32)).run Tryd.prog w = .ok (.slice (some ⟨w.heap.size, 0, none⟩) 0 32) (w.alloc (.cells (Array.replicate 32 (.int .u8 0)) 5)) := fun _ => by kernel_rfl
      go_wp2_with (refine wpList_load_row rfl 102 (Operand.tmp 5) rfl wr.heap.size rfl 102 _ (0, 0) _ (hA7.alloc _) under102 rfl (size102.trans (by simp [nums, hT8])) ?_)
      have hR0 : Kd.R (Kd.int .u8) 5 (W.alloc (.cells (Array.replicate 32 (.int .u8 0)) 5)) W.heap.size (fun _ => True) (.slice (some ⟨W.heap.size, 0, none⟩) 0 32) [] := R_empty (heap_alloc_new W _) (by simp) (by decide) (Nat.le_refl _)
      have hB0 : Below W.heap.size W (W.alloc (.cells (Array.replicate 32 (.int .u8 0)) 5)) := (Below.refl _ W).alloc (Nat.le_refl _) _
      go_loopw [7, 53] (fun v7 v53 w8 => ∃ i : Nat, i ≤ 8 ∧ v53 = .int .i64 i ∧ Kd.R (Kd.int .u8) 5 w8 W.heap.size (fun _ => True) v7 (outBytes T i) ∧ Below W.heap.size W w8) (fun _ v53 _ => 8 - (intOf v53).toNat)
      case atStart => exact ⟨0, by omega, rfl, hR0, hB0⟩
      case round =>
       clear hR0 hB0
       obtain ⟨i, hi, rfl, hR8, hB8⟩ := hrel
       have HR8 := Lib.hid hR8
       have HB8 := Lib.hid hB8
       clear hR8 hB8
       by_cases hi8' : i < 8
       ·
        obtain ⟨y, hy⟩ : ∃ y, y = T[i]?.getD 0 := ⟨_, rfl⟩
        have hix := fun w1 => index102 T hT8 i hi8' w1
        rw [← hy] at hix
        have HY := Lib.hid hy
        clear hy
        obtain ⟨A7, c7, rfl, hc7, hC7⟩ := Kd.R_reads HR8.out
        clear hC7
        obtain ⟨L7, hL7⟩ : ∃ L, L = (outBytes T i).length := ⟨_, rfl⟩
        have hL7b : L7 = 4 * i := by rw [hL7, outBytes_length]
        rw [← hL7] at HR8 hc7 ⊢
        have HL7 := Lib.hid hL7
        clear hL7
        have hlen : ((outBytes T i).length + 4) * 1 ≤ 140737488355328 := by rw [← HL7.out]; omega
        go_wp2_with ((with_reducible refine gate_builtin (b := .append) (xs := #[.tmp 56, .tmp 68]) rfl ?_); at_builtin; go_must (refine Kd.R_append_rows (Kd.int .u8) (w0 := W) W.heap.size rfl (.tmp 56) (.tmp 68) 26 5 (.int .u8 0) 1 rfl Tryd.underlying26 info5 rfl (by decide) (by omega) (.slice A7 L7 c7) (outBytes T i) [y / 16777216 % 256, y / 65536 % 256, y / 256 % 256, y % 256] (some ⟨wr.heap.size, 0, none⟩) 4 4 (fun _ => True) (fun _ => False) rfl rfl (Kd.R_alloc HR8.out _) (C_lit (heap_alloc_new wr _) (by simp)) (fun _ _ h => h) (fun _ h => h.elim) (fun _ _ => trivial) (HB8.out.alloc HB8.out.size _) (HB8.out.alloc HB8.out.size _).size hlen ?_; intro v69 w9 ho hb hg hat; have HR9 := Lib.hid ho; have HB9 := Lib.hid hb; clear ho hb hg hat))
        go_roundw
        case rel => exact ⟨i + 1, by omega, by go_num, by
         have e : outBytes T (i + 1) = outBytes T i ++ [y / 16777216 % 256, y / 65536 % 256, y / 256 % 256, y % 256] := by
          rw [HY.out]; unfold outBytes; rw [List.range_succ, List.flatMap_append]; simp
         rw [e]; exact HR9.out, HB9.out⟩
        case measure => simp [intOf]; omega
       ·
        have hi88 : i = 8 := by omega
        subst hi88
        obtain ⟨A7, c7, rfl, hc7, hC7⟩ := Kd.R_reads HR8.out
        have hcv := Kd.C_string (P := Tryd.prog) (dst := 35) (c := c7) Tryd.underlying26 Tryd.underlying5 Tryd.underlying35 hC7
        have hK9 : wr.heap[D]? = some (.deferred (some [])) := (HB8.out.block D (Array.getElem?_eq_some_iff.1 HK.out).1).trans HK.out
        have HK9 := Lib.hid hK9
        clear hK9
        go_wp2_with fail
        refine ⟨by simp, .inl ⟨_, _, rfl, run_takeDeferred HK9.out, ?_⟩⟩
        have hsum : sumB m rest = b1 ++ lenBytes m 8 := by rw [HB1.out, HBB.out, HN0.out]; rfl
        have hfinal : sumF S m rest = outBytes T 8 := by
         unfold sumF
         rw [hsum, HT.out, hbl4, show N * 64 / 64 = N by omega]
        have k1 := HB7.out
        have k2 : Below w.heap.size w W := HBi.out.trans (k1.mono HBi.out.size)
        have k3 : Below w.heap.size w wr := k2.trans (HB8.out.mono k2.size)
        exact ⟨_, results_tmp rfl _ _ _, by rw [hfinal]; rfl, k3.trans (belowK_b (w := w) (Nat.le_refl _) wr D _ _ (by have := HBi.out.size; omega) HK9.out rfl rfl)⟩
     case stop =>
      rintro D c pre W _ _ h _
      exact h.elim
  ·
   have ht : ¬ Int.tmod ((L : Int) + 8) 64 = 0 := by rw [Int.tmod_eq_emod_of_nonneg (by omega)]; omega
   have hjp : j < padN n0 := by unfold padN at hj ⊢; omega
   clear hL2
   have hk6 : (b0 ++ List.replicate j (0 : Int)).length + 1 ≤ 140737488355328 := by rw [← HLL.out]; have := HLL.out; simp [hb0] at this; omega
   go_wp2_with ((with_reducible refine gate_builtin (b := .append) (xs := #[.tmp 22, .tmp 23]) rfl ?_); at_builtin; go_must (refine Kd.R_append (Kd.int .u8) (w0 := w) w.heap.size rfl (.tmp 22) (.tmp 23) 26 5 (.int .u8 0) 1 rfl Tryd.underlying26 info5 rfl (by decide) (by omega) (.slice A3 L c3) (b0 ++ List.replicate j 0) 0 [.int .u8 0] (fun _ => True) (fun _ => False) rfl rfl rfl (fun _ hk => hk.elim) (fun _ _ => trivial) HRj.out HBj.out HBj.out.size (by omega) ?_; intro v24 w3 ho hb hg hat; have HR3 := Lib.hid ho; have HB3 := Lib.hid hb; clear ho hb hg hat))
   go_roundw
   case rel => exact ⟨j + 1, by omega, by rw [List.replicate_succ', ← List.append_assoc]; exact HR3.out, HB3.out⟩
   case measure =>
    obtain ⟨A4, c4, rfl, hc4, hC4⟩ := Kd.R_reads HR3.out
    have hL3 := HLL.out
    simp only [List.length_append, List.length_replicate, hb0, List.length_cons, List.length_nil] at hL3 ⊢
    show 256 - _ < 256 - _
    omega
end Go.Proofs.YtembjjombhfglaaDoor.G
