import Derived.Test.YtembjjombhfglaaDoorGE6
import Derived.Test.YtembjjombhfglaaDoorGR
namespace Go.Proofs.YtembjjombhfglaaDoor.G
open Go.RowKit Go.Proofs.YtembjjombhfglaaDoorW.PrintWords Go.Proofs.YtembjjombhfglaaDoorW.PrintLast Go.Proofs.YtembjjombhfglaaDoorW.PrintMore
set_option linter.unusedVariables false
set_option linter.unusedSimpArgs false
def rt (x : Int) : Nat → Int
 | 0 => x
 | n + 1 => rt ((((Int.tdiv x 2) % 4294967296) + (((Int.tmod x 2) * 2147483648) % 4294967296)) % 4294967296) n
theorem rt_l0 (N : Nat) (hN : N ≤ 64) : ∀ (d i k : Nat) (x : Int), i + d = N → d < k → GR.grapevineref01_Turn.l0 k x (N : Int) (i : Int) = some (rt x d)
 | 0, i, k + 1, x, hi, hk => by
  unfold GR.grapevineref01_Turn.l0
  rw [if_neg (by omega)]
  rfl
 | d + 1, i, k + 1, x, hi, hk => by
  unfold GR.grapevineref01_Turn.l0
  rw [if_pos (by omega), show wrap64 ((i : Int) + 1) = ((i + 1 : Nat) : Int) by unfold wrap64; omega, rt_l0 N hN d (i + 1) k _ (by omega) (by omega)]
  rfl
theorem rt_calls (x : Int) (n : Nat) (hn : n ≤ 64) (w : World) : Calls Tryd.prog 40 #[.int .u32 x, .int .i64 (n : Int)] w fun e w' => e = .returned (.int .u32 (rt x n)) ∧ Drawn0 w w' :=
 GR.grapevineref01_Turn.calls 100 x n _ w (rt_l0 n hn n 0 100 x (by omega) (by omega))
theorem rt6 (x : Int) (w : World) : Calls Tryd.prog 40 #[.int .u32 x, .int .i64 6] w fun e w' => e = .returned (.int .u32 (rt x 6)) ∧ ∃ m, w' = w.drewN m := (rt_calls x 6 (by omega) w).mono fun _ _ h => ⟨h.1, h.2.out⟩
theorem rt11 (x : Int) (w : World) : Calls Tryd.prog 40 #[.int .u32 x, .int .i64 11] w fun e w' => e = .returned (.int .u32 (rt x 11)) ∧ ∃ m, w' = w.drewN m := (rt_calls x 11 (by omega) w).mono fun _ _ h => ⟨h.1, h.2.out⟩
theorem rt25 (x : Int) (w : World) : Calls Tryd.prog 40 #[.int .u32 x, .int .i64 25] w fun e w' => e = .returned (.int .u32 (rt x 25)) ∧ ∃ m, w' = w.drewN m := (rt_calls x 25 (by omega) w).mono fun _ _ h => ⟨h.1, h.2.out⟩
theorem rt2 (x : Int) (w : World) : Calls Tryd.prog 40 #[.int .u32 x, .int .i64 2] w fun e w' => e = .returned (.int .u32 (rt x 2)) ∧ ∃ m, w' = w.drewN m := (rt_calls x 2 (by omega) w).mono fun _ _ h => ⟨h.1, h.2.out⟩
theorem rt13 (x : Int) (w : World) : Calls Tryd.prog 40 #[.int .u32 x, .int .i64 13] w fun e w' => e = .returned (.int .u32 (rt x 13)) ∧ ∃ m, w' = w.drewN m := (rt_calls x 13 (by omega) w).mono fun _ _ h => ⟨h.1, h.2.out⟩
theorem rt22 (x : Int) (w : World) : Calls Tryd.prog 40 #[.int .u32 x, .int .i64 22] w fun e w' => e = .returned (.int .u32 (rt x 22)) ∧ ∃ m, w' = w.drewN m := (rt_calls x 22 (by omega) w).mono fun _ _ h => ⟨h.1, h.2.out⟩
def H0 : List Int := [1779033703, 3144134277, 1013904242, 2773480762, 1359893119, 2600822924, 528734635, 1541459225]
theorem reps_nums {k : IntKind} (xs : List Int) (P : Int → List Value → Prop) (hP : ∀ p, P p [.int k p]) : Reps P 1 xs (nums k xs) :=
 ⟨by simp [nums], fun j p hj => by
  have hj' : (nums k xs)[j]? = some (.int k p) := by simp [nums, hj]
  have : ((nums k xs).drop (j * 1)).take 1 = [.int k p] := by rw [Nat.mul_one, List.take_one, List.head?_drop, hj']; rfl
  rw [this]
  exact hP p⟩
theorem R_new32 {w : World} {base : Nat} (xs : List Int) (hb : base ≤ w.heap.size) (hm : xs.length ≤ 1000) : Kd.R (Kd.int .u32) 72 (w.alloc (.cells (nums .u32 xs).toArray 72)) base (fun _ => True) (.slice (some ⟨w.heap.size, 0, none⟩) xs.length xs.length) xs :=
 ⟨fun _ _ => trivial, nums .u32 xs, own_lit w base 72 .u32 xs hb (by omega), reps_nums xs _ (fun p => rfl)⟩
def rT (e f g s k x : Int) : Int := ((s + Go.bits .xor .u32 (Go.bits .xor .u32 (rt e 6) (rt e 11)) (rt e 25) + Go.bits .xor .u32 (Go.bits .and .u32 e f) (Go.bits .and .u32 ((4294967295 - e) % 4294967296) g) + k) % 4294967296 + x) % 4294967296
def rU (a b c : Int) : Int := (Go.bits .xor .u32 (Go.bits .xor .u32 (rt a 2) (rt a 13)) (rt a 22) + Go.bits .xor .u32 (Go.bits .xor .u32 (Go.bits .and .u32 a b) (Go.bits .and .u32 a c)) (Go.bits .and .u32 b c)) % 4294967296
def rStep : List Int → Int → Int → List Int
 | [a, b, c, d, e, f, g, s], k, x => [(rT e f g s k x + rU a b c) % 4294967296, a, b, c, (d + rT e f g s k x) % 4294967296, e, f, g]
 | S, _, _ => S
theorem rStep_length (S : List Int) (k x : Int) (h : S.length = 8) : (rStep S k x).length = 8 := by
 obtain ⟨a, b, c, d, e, f, g, s, rfl⟩ := len8 h
 rfl
def rSteps (W : List Int) (V : List Int) : Nat → List Int
 | 0 => V
 | n + 1 => rStep (rSteps W V n) (rd keysD n) (W[n]?.getD 0)
theorem rSteps_length (W S : List Int) (h : S.length = 8) (n : Nat) : (rSteps W S n).length = 8 := by
 induction n with
 | zero => exact h
 | succ n ih => exact rStep_length _ _ _ ih
theorem rd_nat (xs : List Int) (j : Nat) : rd xs (j : Int) = xs[j]?.getD 0 := by
 simp [rd]
theorem R_cells {w : World} {base : Nat} {ok : Nat → Prop} {v : Value} {xs : List Int} (h : Kd.R (Kd.int .u32) 72 w base ok v xs) (hp : 0 < xs.length) :
  ∃ g c, v = .slice (some ⟨g, 0, none⟩) xs.length c ∧ base ≤ g ∧ g < w.heap.size ∧ ∀ j : Nat, j < xs.length → w.cell? ⟨g, j, none⟩ = some (.int .u32 (xs[j]?.getD 0)) := by
 obtain ⟨g, cap, rfl, hb, hg, cells, hc⟩ := Kd.R_form h hp
 have hC := (Kd.R_reads' h).2.2
 refine ⟨g, cap, rfl, hb, hg, fun j hj => ?_⟩
 obtain ⟨ad, e, hcell⟩ := Kd.at_int hC (j : Int) (by omega) (by omega)
 injection e with e
 subst e
 rw [rd_nat] at hcell
 have e2 : ∀ n, (⟨g, 0, none⟩ : Addr).add n = ⟨g, n, none⟩ := fun n => by unfold Addr.add; split <;> simp_all
 rw [e2, Int.toNat_natCast] at hcell
 exact hcell
def refBlocks (K : Nat) : Nat → List Int → List Int → Option (List Int)
 | 0, H, _ => some H
 | n + 1, H, l => (GR.grapevineref01_spread.f K (l.take 64)).bind fun W => if W.length = 64 then refBlocks K n (addP H (rSteps W H 64) 8) (l.drop 64) else none
theorem info72' : (Tryd.prog.info? 72).map (fun i => (i.zero, i.size, i.bytes)) = some (some (.int .u32 0), 1, 4) := by kernel_rfl
theorem R_empty32 {w : World} {base g cap : Nat} {cur : Array Value} (h : w.heap[g]? = some (.cells cur 72 (0, 0))) (hs : cur.size = cap) (hc : cap ≤ maxLen) (hb : base ≤ g) : Kd.R (Kd.int .u32) 72 w base (fun _ => True) (.slice (some ⟨g, 0, none⟩) 0 cap) [] :=
 ⟨fun _ _ => trivial, [], ⟨by simp, .inr ⟨g, cap, cur, rfl, hb, h, Nat.zero_le _, hc, by rw [hs]; show cap = cap * 1; omega, by simp⟩⟩, Reps.none _ _⟩
theorem C_lit32 {w : World} {g : Nat} {xs : List Int} {e : TypeId} (h : Arr w g e xs) (hx : xs.length ≤ 9223372036854775807) : Kd.C (Kd.int .u32) w (some ⟨g, 0, none⟩) xs.length xs :=
 ⟨rfl, hx, fun _ => ⟨_, rfl, fun j p hj => ⟨[.int .u32 p], rfl, rfl, fun i u hu => by
  have e2 : ∀ n, (⟨g, 0, none⟩ : Addr).add n = ⟨g, n, none⟩ := fun n => by unfold Addr.add; split <;> simp_all
  match i, hu with
  | 0, hu =>
   simp only [List.getElem?_cons_zero, Option.some.injEq] at hu
   subst hu
   rw [e2, show (Kd.int .u32).sz = 1 from rfl, cell_of_row w g _ _ e (0, 0) h]
   simp [nums, hj]⟩⟩⟩
def b4 (y : Int) : List Int := [IntKind.u8.wrap (IntKind.u32.wrap (y.tdiv 16777216)), IntKind.u8.wrap ((IntKind.u32.wrap (y.tdiv 65536)).tmod 256), IntKind.u8.wrap ((IntKind.u32.wrap (y.tdiv 256)).tmod 256), IntKind.u8.wrap (y.tmod 256)]
def outR (T : List Int) (n : Nat) : List Int := (List.range n).flatMap fun i => b4 (T[i]?.getD 0)
theorem outR_length (T : List Int) (n : Nat) : (outR T n).length = 4 * n := by
 induction n with
 | zero => rfl
 | succ n ih =>
  unfold outR at ih ⊢
  rw [List.range_succ, List.flatMap_append, List.length_append, ih]
  simp [b4]
  omega
set_option maxHeartbeats 8000000 in
set_option maxRecDepth 100000 in
theorem ref_walk (A0 : Option Addr) (c0 : Nat) (l0 : List Int) (w : World) (hr0 : Kd.C (Kd.int .u8) w A0 l0.length l0) (hc0 : l0.length ≤ c0) (hG : GK w) (L : List Int) (kF : Nat) (hF : GR.grapevineref01_filled.f kF l0 = some L) (N : Nat) (hL : L.length = 64 * N) (hL2 : L.length ≤ 70368744177664)
  (Hn : Nat → List Int) (Wn : Nat → List Int) (h0 : Hn 0 = H0) (hW : ∀ b, b < N → GR.grapevineref01_spread.f kF ((L.drop (64 * b)).take 64) = some (Wn b) ∧ (Wn b).length = 64) (hH : ∀ b, b < N → Hn (b + 1) = addP (Hn b) (rSteps (Wn b) (Hn b) 64) 8) (hH8 : ∀ b, (Hn b).length = 8) :
  Calls Tryd.prog 22 #[.slice A0 l0.length c0] w fun e w' => e = .returned (.string (strOfNums (outR (Hn N) 8))) ∧ Below w.heap.size w w' := by
 have HR0 := Lib.hid hr0
 have HC0 := Lib.hid hc0
 have HG := Lib.hid hG
 have HF := Lib.hid hF
 have HW := Lib.hid hW
 have HH := Lib.hid hH
 have HH8 := Lib.hid hH8
 have HZ := Lib.hid h0
 clear hr0 hc0 hG hF hW hH hH8 h0
 go_enter Tryd.func22, Tryd.ntmps22
 go_wp2_with fail
 have hA1 : Arr (w.alloc (.cells (nums .u32 H0).toArray 72)) w.heap.size 72 H0 := Arr.new w 72 H0
 have hB1 : Below w.heap.size w (w.alloc (.cells (nums .u32 H0).toArray 72)) := (Below.refl _ w).alloc (Nat.le_refl _) _
 refine (GR.grapevineref01_filled.calls kF A0 c0 l0 L _ (Kd.C_alloc HR0.out _) HC0.out HF.out).mono ?_
 rintro e w3 ⟨v4, rfl, hR3, hB3⟩
 have hA3 : Arr w3 w.heap.size 72 H0 := hA1.below hB3 (blk_lt hA1)
 have hB3' : Below w.heap.size w w3 := hB1.trans (hB3.mono hB1.size)
 have hR3' : Kd.R (Kd.int .u8) 5 w3 w.heap.size (fun k => w.heap.size < k) v4 L := Kd.R_lower (Kd.R_mono (Kd.R_bound hR3) (fun k hk => by have := hk.2.1; rw [World.size_alloc] at this; omega)) hB1.size
 obtain ⟨A4, c4, rfl, hc4, hC4⟩ := Kd.R_reads hR3'
 have HA3 := Lib.hid hA3
 have HB3 := Lib.hid hB3'
 have HR3 := Lib.hid hR3'
 obtain ⟨M, hM⟩ : ∃ M, M = L.length := ⟨_, rfl⟩
 have hM2 : M ≤ 70368744177664 := by omega
 have HM := Lib.hid (show M = 64 * N by omega)
 have HML := Lib.hid hM
 rw [← hM] at hc4 HR3 ⊢
 clear hA1 hB1 hA3 hB3 hB3' hR3 hR3' hC4 hM hL hL2
 go_wp2_with fail
 go_loopw [5] (fun v5 wr => ∃ b m : Nat, b ≤ N ∧ v5 = .int .i64 (m : Int) ∧ Hid (m = 64 * b) ∧ Hid (Arr wr w.heap.size 72 (Hn b)) ∧ Hid (Kd.R (Kd.int .u8) 5 wr w.heap.size (fun k => w.heap.size < k) (.slice A4 M c4) L) ∧ Hid (Below w.heap.size w wr)) (fun v5 _ => M - (intOf v5).toNat)
 case atStart => exact ⟨0, 0, by omega, rfl, Lib.hid rfl, by rw [HZ.out]; exact HA3, HR3, HB3⟩
 case round =>
  clear HA3 HR3 HB3
  obtain ⟨b, m, hb, rfl, HMb, HAr, HRr, HBr⟩ := hrel
  by_cases hlt : b < N
  ·
   have hm1 : (m : Int) < (M : Int) := by have := HM.out; have := HMb.out; omega
   have hm2 : m + 64 ≤ M := by have := HM.out; have := HMb.out; omega
   have hmc : (m : Int) + 64 ≤ (c4 : Int) := by omega
   obtain ⟨g4, cap, e4, hg41, hg42, cells, hg43⟩ := Kd.R_form HRr.out (by rw [← HML.out]; omega)
   injection e4 with e5 e6 e7
   subst e5
   subst e7
   clear e6
   have h64l : ((L.drop m).take 64).length = 64 := by rw [List.length_take, List.length_drop, ← HML.out]; omega
   have hCx : Kd.C (Kd.int .u8) wr (some ⟨g4, m, none⟩) ((L.drop m).take 64).length ((L.drop m).take 64) := by
    obtain ⟨A', c', e1, _, hC⟩ := Kd.R_reads HRr.out
    injection e1 with e2 _ _
    subst e2
    exact C_sub hC (by rw [← HML.out]; omega) (by omega)
   obtain ⟨hW1, hW2⟩ := HW.out b hlt
   rw [← HMb.out] at hW1
   have hsp := GR.grapevineref01_spread.calls kF (some ⟨g4, m, none⟩) (c4 - m) ((L.drop m).take 64) (Wn b) wr hCx (by rw [h64l]; omega) hW1
   rw [h64l] at hsp
   have HSp := Lib.hid hsp
   have HW2 := Lib.hid hW2
   clear hsp hW1 hCx hW2 hg43
   go_wp2_with fail
   refine HSp.out.mono ?_
   rintro e w5 ⟨v6, rfl, hR6, hB6⟩
   obtain ⟨A6, c6, rfl, hc6, hC6⟩ := Kd.R_reads hR6
   have HR6 := Lib.hid hR6
   have HB6 := Lib.hid hB6
   clear hR6 hB6 hC6 HSp
   have hg5 : wr.heap.size ≤ w5.heap.size := HB6.out.size
   have hwr : w.heap.size ≤ wr.heap.size := HBr.out.size
   have hA5 := HAr.out.below HB6.out (blk_lt HAr.out)
   have hB5 : Below w.heap.size w w5 := HBr.out.trans (HB6.out.mono hwr)
   have h8b := HH8.out b
   have HA5 := Lib.hid hA5
   have HB5 := Lib.hid hB5
   clear hA5 hB5
   go_wp2_with ((with_reducible refine gate_builtin (b := .append) (xs := #[.tmp 31, .tmp 32]) rfl ?_); at_builtin; go_must (refine Kd.R_append_rows (Kd.int .u32) (w0 := w5) w5.heap.size rfl (.tmp 31) (.tmp 32) 73 72 (.int .u32 0) 4 rfl (by rfl) info72' rfl (by decide) (by omega) (.slice (some ⟨w5.heap.size, 0, none⟩) 0 0) ([] : List Int) (Hn b) (some ⟨w.heap.size, 0, none⟩) 8 8 (fun _ => True) (fun _ => False) rfl rfl (R_empty32 (heap_alloc_new w5 _) rfl (by decide) (Nat.le_refl _)) (by rw [← h8b]; exact C_lit32 (HA5.out.alloc _) (by omega)) (fun _ _ h => h) (fun _ h => h.elim) (fun _ _ => trivial) ((Below.refl _ w5).alloc (Nat.le_refl _) _) (by simp) (by simp) ?_; intro v33 w7 ho hb hg hat; have HR7 := Lib.hid ho; have HB7 := Lib.hid hb; clear ho hb hg hat))
   obtain ⟨V, hV⟩ : ∃ V : Nat → List Int, V = rSteps (Wn b) (Hn b) := ⟨_, rfl⟩
   have hVl : ∀ i, (V i).length = 8 := fun i => by rw [hV]; exact rSteps_length _ _ h8b i
   have HV := Lib.hid hV
   have HVl := Lib.hid hVl
   have HR7' := Lib.hid (show Kd.R (Kd.int .u32) 72 w7 w5.heap.size (fun _ => True) v33 (V 0) from by rw [hV]; exact HR7.out)
   obtain ⟨g6, cw6, e6, hg61, hg62, hcells6⟩ := R_cells HR6.out (by rw [HW2.out]; omega)
   injection e6 with e61 e62 e63
   subst e61
   subst e63
   have HC6 := Lib.hid hcells6
   rw [HW2.out] at hc6 ⊢
   clear hV hVl hcells6 HR7 e62
   go_loopw [7, 8] (fun v7 v8 wr2 => ∃ i : Nat, i ≤ 64 ∧ v8 = .int .i64 (i : Int) ∧ Hid (Kd.R (Kd.int .u32) 72 wr2 w5.heap.size (fun _ => True) v7 (V i)) ∧ Hid (Below w5.heap.size w5 wr2)) (fun _ v8 _ => 64 - (intOf v8).toNat)
   case atStart => exact ⟨0, by omega, rfl, HR7', HB7⟩
   case round =>
    clear HR7' HB7
    obtain ⟨i, hi, rfl, HRv, HBv⟩ := hrel
    by_cases hit : i < 64
    ·
     obtain ⟨g7, c7, rfl, hg71, hg72, hcells⟩ := R_cells HRv.out (by rw [HVl.out]; omega)
     rw [HVl.out i] at hcells ⊢
     obtain ⟨a1, a2, a3, a4, a5, a6, a7, a8, hL8⟩ := len8 (HVl.out i)
     rw [hL8] at hcells
     have k0 := hcells 0 (by omega)
     have k1 := hcells 1 (by omega)
     have k2 := hcells 2 (by omega)
     have k3 := hcells 3 (by omega)
     have k4 := hcells 4 (by omega)
     have k5 := hcells 5 (by omega)
     have k6 := hcells 6 (by omega)
     have k7 := hcells 7 (by omega)
     simp only [List.getElem?_cons_zero, List.getElem?_cons_succ, Option.getD_some] at k0 k1 k2 k3 k4 k5 k6 k7
     have kk : wr.cell? ⟨0, i, none⟩ = some (.int .u32 (rd keysD i)) := pw_cell_below (HB5.out.trans (HBv.out.mono HB5.out.size)) (HG.out.ref i hit)
     obtain ⟨y, hy⟩ : ∃ y, y = (Wn b)[i]?.getD 0 := ⟨_, rfl⟩
     have kw : wr.cell? ⟨g6, i, none⟩ = some (.int .u32 y) := by rw [hy]; exact pw_cell_below HBv.out (HC6.out i (by rw [HW2.out]; omega))
     have HY := Lib.hid hy
     have HL8 := Lib.hid hL8
     clear hcells hy hL8
     go_wp2_with fail
     go_quiet (first | (go_at_call 40; (with_reducible refine (rt6 a5 _).mono ?_); rintro e w' ⟨rfl, m_, rfl⟩; exact ⟨rfl, _, World.drewN_drewN _ _ _⟩) | (go_at_call 40; (with_reducible refine (rt11 a5 _).mono ?_); rintro e w' ⟨rfl, m_, rfl⟩; exact ⟨rfl, _, World.drewN_drewN _ _ _⟩) | (go_at_call 40; (with_reducible refine (rt25 a5 _).mono ?_); rintro e w' ⟨rfl, m_, rfl⟩; exact ⟨rfl, _, World.drewN_drewN _ _ _⟩))
     go_wp2_with fail
     obtain ⟨T, hT⟩ : ∃ T, T = rT a5 a6 a7 a8 (rd keysD i) y := ⟨_, rfl⟩
     simp only [rT] at hT
     rw [← hT]
     have HT := Lib.hid hT
     clear hT
     obtain ⟨wr3, hw3⟩ : ∃ x, x = wr.drewN nq := ⟨_, rfl⟩
     rw [← hw3]
     replace k0 : wr3.cell? ⟨g7, 0, none⟩ = some (.int .u32 a1) := by rw [hw3]; exact k0
     replace k1 : wr3.cell? ⟨g7, 1, none⟩ = some (.int .u32 a2) := by rw [hw3]; exact k1
     replace k2 : wr3.cell? ⟨g7, 2, none⟩ = some (.int .u32 a3) := by rw [hw3]; exact k2
     replace k3 : wr3.cell? ⟨g7, 3, none⟩ = some (.int .u32 a4) := by rw [hw3]; exact k3
     replace k4 : wr3.cell? ⟨g7, 4, none⟩ = some (.int .u32 a5) := by rw [hw3]; exact k4
     replace k5 : wr3.cell? ⟨g7, 5, none⟩ = some (.int .u32 a6) := by rw [hw3]; exact k5
     replace k6 : wr3.cell? ⟨g7, 6, none⟩ = some (.int .u32 a7) := by rw [hw3]; exact k6
     replace k7 : wr3.cell? ⟨g7, 7, none⟩ = some (.int .u32 a8) := by rw [hw3]; exact k7
     replace HBv : Hid (Below w5.heap.size w5 wr3) := Lib.hid (by rw [hw3]; exact HBv.out.trans ⟨rfl, rfl, rfl, Nat.le_refl _, fun _ _ => rfl⟩)
     clear hw3
     clear kk kw hg72 HRv
     go_quiet (first | (go_at_call 40; (with_reducible refine (rt2 a1 _).mono ?_); rintro e w' ⟨rfl, m_, rfl⟩; exact ⟨rfl, _, World.drewN_drewN _ _ _⟩) | (go_at_call 40; (with_reducible refine (rt13 a1 _).mono ?_); rintro e w' ⟨rfl, m_, rfl⟩; exact ⟨rfl, _, World.drewN_drewN _ _ _⟩) | (go_at_call 40; (with_reducible refine (rt22 a1 _).mono ?_); rintro e w' ⟨rfl, m_, rfl⟩; exact ⟨rfl, _, World.drewN_drewN _ _ _⟩))
     obtain ⟨U, hU⟩ : ∃ U, U = rU a1 a2 a3 := ⟨_, rfl⟩
     simp only [rU] at hU
     rw [← hU]
     have HU := Lib.hid hU
     clear hU
     obtain ⟨wr4, hw3⟩ : ∃ x, x = wr3.drewN nq := ⟨_, rfl⟩
     rw [← hw3]
     replace k0 : wr4.cell? ⟨g7, 0, none⟩ = some (.int .u32 a1) := by rw [hw3]; exact k0
     replace k1 : wr4.cell? ⟨g7, 1, none⟩ = some (.int .u32 a2) := by rw [hw3]; exact k1
     replace k2 : wr4.cell? ⟨g7, 2, none⟩ = some (.int .u32 a3) := by rw [hw3]; exact k2
     replace k3 : wr4.cell? ⟨g7, 3, none⟩ = some (.int .u32 a4) := by rw [hw3]; exact k3
     replace k4 : wr4.cell? ⟨g7, 4, none⟩ = some (.int .u32 a5) := by rw [hw3]; exact k4
     replace k5 : wr4.cell? ⟨g7, 5, none⟩ = some (.int .u32 a6) := by rw [hw3]; exact k5
     replace k6 : wr4.cell? ⟨g7, 6, none⟩ = some (.int .u32 a7) := by rw [hw3]; exact k6
     replace k7 : wr4.cell? ⟨g7, 7, none⟩ = some (.int .u32 a8) := by rw [hw3]; exact k7
     replace HBv : Hid (Below w5.heap.size w5 wr4) := Lib.hid (by rw [hw3]; exact HBv.out.trans ⟨rfl, rfl, rfl, Nat.le_refl _, fun _ _ => rfl⟩)
     clear hw3
     go_wp2_with fail
     have hgr : w5.heap.size ≤ wr4.heap.size := HBv.out.size
     have HHi := Lib.hid hi
     refine wp_tail_gen 22 (by kernel_rfl) (by kernel_rfl) (fun w2 d hw2 => ?_)
     simp only [List.take_succ_cons, List.take_zero, List.drop_succ_cons, List.drop_zero]
     have q1 : w2.cell? ⟨g7, 1, none⟩ = some (.int .u32 a2) := by rw [hw2]; exact k1
     have q2 : w2.cell? ⟨g7, 2, none⟩ = some (.int .u32 a3) := by rw [hw2]; exact k2
     have q3 : w2.cell? ⟨g7, 3, none⟩ = some (.int .u32 a4) := by rw [hw2]; exact k3
     have q5 : w2.cell? ⟨g7, 5, none⟩ = some (.int .u32 a6) := by rw [hw2]; exact k5
     have q6 : w2.cell? ⟨g7, 6, none⟩ = some (.int .u32 a7) := by rw [hw2]; exact k6
     have HB2 : Hid (Below w5.heap.size w5 w2) := Lib.hid (by rw [hw2]; exact HBv.out.trans ⟨rfl, rfl, rfl, Nat.le_refl _, fun _ _ => rfl⟩)
     clear hw2 k0 k1 k2 k3 k4 k5 k6 k7 HBv hgr
     iterate 22 still_step
     refine wpStill_nil ?_
     go_wp2_with fail
     go_roundw
     case rel => exact ⟨i + 1, by omega, by go_num, Lib.hid (by
      have e : V (i + 1) = [(T + U) % 4294967296, a1, a2, a3, (a4 + T) % 4294967296, a5, a6, a7] := by
       rw [HV.out]
       show rStep (rSteps (Wn b) (Hn b) i) (rd keysD i) ((Wn b)[i]?.getD 0) = _
       rw [← HV.out, HL8.out, ← HY.out, HT.out, HU.out]
       rfl
      rw [e]
      exact R_new32 _ HB2.out.size (by simp)), Lib.hid (HB2.out.alloc HB2.out.size _)⟩
     case measure => simp [intOf]; omega
    ·
     have hi64 : i = 64 := by omega
     subst hi64
     obtain ⟨g7, c7, rfl, hg71, hg72, hcells⟩ := R_cells HRv.out (by rw [HVl.out]; omega)
     rw [HVl.out 64] at hcells ⊢
     obtain ⟨T2, hT2⟩ : ∃ T : Nat → List Int, T = addP (Hn b) (V 64) := ⟨_, rfl⟩
     have hT2l : ∀ j, (T2 j).length = 8 := fun j => by rw [hT2, addP_length]; exact HH8.out b
     have HT2 := Lib.hid hT2
     have HT2l := Lib.hid hT2l
     have HC7 := Lib.hid hcells
     have hww : w.heap.size ≤ w5.heap.size := HB5.out.size
     have hg7 : g7 ≠ w.heap.size := by omega
     have HAs := Lib.hid (show Arr wr w.heap.size 72 (T2 0) from by rw [hT2]; exact HA5.out.below HBv.out (blk_lt HA5.out))
     have HRs := Lib.hid (Kd.R_below (Kd.R_below HRr.out HB6.out) HBv.out)
     have HBs := Lib.hid (HB5.out.trans (HBv.out.mono hww))
     clear hT2 hT2l hcells HRv
     go_wp2_with fail
     generalize (Value.int IntKind.i64 ((64 : Nat) : Int)) = v8
     go_loopw [13] (fun v13 wq => ∃ j : Nat, j ≤ 8 ∧ v13 = .int .i64 (j : Int) ∧ Hid (Arr wq w.heap.size 72 (T2 j)) ∧ Hid (Kd.R (Kd.int .u8) 5 wq w.heap.size (fun k => w.heap.size < k) (.slice (some ⟨g4, 0, none⟩) M c4) L) ∧ Hid (Below w.heap.size w wq) ∧ Hid (∀ k : Nat, k < 8 → wq.cell? ⟨g7, k, none⟩ = some (.int .u32 ((V 64)[k]?.getD 0)))) (fun v13 _ => 8 - (intOf v13).toNat)
     case atStart => exact ⟨0, by omega, rfl, HAs, HRs, HBs, HC7⟩
     case round =>
      clear HAs HRs HBs HC7
      obtain ⟨j, hj, rfl, HAq, HRq, HBq, HCq⟩ := hrel
      by_cases hj8 : j < 8
      ·
       have hgw : w.heap.size < wr.heap.size := blk_lt HAq.out
       go_wp2_with fail
       refine wp_tail_gen 12 (by kernel_rfl) (by kernel_rfl) (fun w2 d hw2 => ?_)
       simp only [List.take_succ_cons, List.take_zero, List.drop_succ_cons, List.drop_zero]
       have hA2 : Arr w2 w.heap.size 72 (T2 j) := by rw [hw2]; exact HAq.out
       have HB2 : Hid (Below w.heap.size w w2) := Lib.hid (by rw [hw2]; exact HBq.out.trans ⟨rfl, rfl, rfl, Nat.le_refl _, fun _ _ => rfl⟩)
       have HR2 : Hid (Kd.R (Kd.int .u8) 5 w2 w.heap.size (fun k => w.heap.size < k) (.slice (some ⟨g4, 0, none⟩) M c4) L) := Lib.hid (by rw [hw2]; exact Kd.R_below HRq.out ⟨rfl, rfl, rfl, Nat.le_refl _, fun _ _ => rfl⟩)
       have HC2 : Hid (∀ k : Nat, k < 8 → w2.cell? ⟨g7, k, none⟩ = some (.int .u32 ((V 64)[k]?.getD 0))) := Lib.hid (by rw [hw2]; exact HCq.out)
       clear hw2 HAq HBq HRq HCq
       have hk1 := hA2.cell j (by rw [HT2l.out j]; omega)
       have hk2 := HC2.out j hj8
       obtain ⟨y1, hy1⟩ : ∃ y, y = (T2 j)[j]?.getD 0 := ⟨_, rfl⟩
       obtain ⟨y2, hy2⟩ : ∃ y, y = (V 64)[j]?.getD 0 := ⟨_, rfl⟩
       rw [← hy1] at hk1
       rw [← hy2] at hk2
       have HY1 := Lib.hid hy1
       have HY2 := Lib.hid hy2
       clear hy1 hy2
       have hf := hA2.frozen j
       have HA2 := Lib.hid hA2
       clear hA2
       iterate 12 still_step
       refine wpStill_nil ?_
       go_wp2_with fail
       go_roundw
       case rel => exact ⟨j + 1, by omega, by go_num, Lib.hid (by
        have e : T2 (j + 1) = (T2 j).set j ((y1 + y2) % 4294967296) := by rw [HT2.out, HY1.out, HY2.out, HT2.out]; rfl
        rw [e]; exact HA2.out.set j _), Lib.hid (Kd.R_far HR2.out (fun k hk => by show k ≠ w.heap.size; omega) _), Lib.hid (HB2.out.setCell (Nat.le_refl _) _), Lib.hid (fun k hk => (cell_far (show g7 ≠ w.heap.size from hg7) _).trans (HC2.out k hk))⟩
       case measure => simp [intOf]; omega
      ·
       have hj88 : j = 8 := by omega
       have hm3 : (M : Int) ≤ 70368744177664 := by omega
       go_wp2_with fail
       go_roundw
       case rel => exact ⟨b + 1, m + 64, by omega, by go_num, Lib.hid (by have := HMb.out; omega), Lib.hid (by
        rw [HH.out b hlt, ← HV.out]
        have e := HAq.out
        rw [hj88, HT2.out] at e
        exact e), HRq, HBq⟩
       case measure => simp [intOf]; omega
  ·
   have hm1 : ¬ ((m : Int) < (M : Int)) := by have := HM.out; have := HMb.out; omega
   obtain ⟨W0, hW0⟩ : ∃ x, x = wr := ⟨_, rfl⟩
   subst hW0
   obtain ⟨T, hT⟩ : ∃ T, T = Hn N := ⟨_, rfl⟩
   have hbN : b = N := by omega
   have hT8 : T.length = 8 := by rw [hT]; exact HH8.out N
   have HT := Lib.hid hT
   have HA := Lib.hid (show Arr W0 w.heap.size 72 T from by rw [hT, ← hbN]; exact HAr.out)
   clear hT HAr HRr
   go_wp2_with fail
   go_loopw [14, 15] (fun v14 v15 wq => ∃ i : Nat, i ≤ 8 ∧ v15 = .int .i64 (i : Int) ∧ Hid (Kd.R (Kd.int .u8) 5 wq W0.heap.size (fun _ => True) v14 (outR T i)) ∧ Hid (Below W0.heap.size W0 wq)) (fun _ v15 _ => 8 - (intOf v15).toNat)
   case atStart => exact ⟨0, by omega, rfl, Lib.hid (Kd.R_nil _ _ _ _ _), Lib.hid (Below.refl _ _)⟩
   case round =>
    obtain ⟨i, hi, rfl, HRo, HBo⟩ := hrel
    by_cases hi8 : i < 8
    ·
     obtain ⟨y, hy⟩ : ∃ y, y = T[i]?.getD 0 := ⟨_, rfl⟩
     have hcy : wr.drew.cell? ⟨w.heap.size, i, none⟩ = some (.int .u32 y) := by rw [hy]; exact pw_cell_below HBo.out (HA.out.cell i (by omega))
     obtain ⟨A7, c7, rfl, hc7, hC7⟩ := Kd.R_reads HRo.out
     clear hC7
     obtain ⟨L7, hL7⟩ : ∃ L, L = (outR T i).length := ⟨_, rfl⟩
     have hL7b : L7 = 4 * i := by rw [hL7, outR_length]
     rw [← hL7] at HRo hc7 ⊢
     have HL7 := Lib.hid hL7
     have HY := Lib.hid hy
     clear hL7 hy
     go_wp2_with fail
     refine start_ (n := 30) (S := fun w' => w'.cell? ⟨w.heap.size, i, none⟩ = some (.int .u32 y)) (ds := []) #[false, false, false, false, false, false, false, false, false, false, false, false, false, false, false, false, false, false, false, false, false, false, false, false, false, false, false, false, false, false] (by kernel_rfl) rfl rfl hcy (fun hHeld => ?_)
     obtain ⟨wd, hwd⟩ : ∃ x, x = wr.drew := ⟨_, rfl⟩
     rw [← hwd] at hHeld ⊢
     have HRd := Lib.hid (show Kd.R (Kd.int .u8) 5 wd W0.heap.size (fun _ => True) (.slice A7 L7 c7) (outR T i) from by rw [hwd]; exact Kd.R_below HRo.out ⟨rfl, rfl, rfl, Nat.le_refl _, fun _ _ => rfl⟩)
     have HBd := Lib.hid (show Below W0.heap.size W0 wd from by rw [hwd]; exact HBo.out.trans ⟨rfl, rfl, rfl, Nat.le_refl _, fun _ _ => rfl⟩)
     have hlen : ((outR T i).length + 4) * 1 ≤ 140737488355328 := by rw [← HL7.out]; omega
     clear hwd HRo HBo
     refine pure_ (i := 0) (N := some 149) (v := ?_) (a' := ?_) #[true, false, false, false, false, false, false, false, false, false, false, false, false, false, false, false, false, false, false, false, false, false, false, false, false, false, false, false, false, false] rfl rfl (by kernel_rfl) (fun _ _ _ h => h) (Or.inl ⟨by rfl, ?_⟩) ?_ ?_
     rotate_left
     ·
      intro w'
      go_simp
      with_reducible rfl
     rotate_left
     ·
      simp only [Act.put, List.setIfInBounds_toArray, List.set_cons_zero, List.set_cons_succ, i64_w, i32_w]
      rfl
     refine pure_ (i := 1) (N := some 150) (v := ?_) (a' := ?_) #[true, true, false, false, false, false, false, false, false, false, false, false, false, false, false, false, false, false, false, false, false, false, false, false, false, false, false, false, false, false] rfl rfl (by kernel_rfl) (fun _ _ _ h => h) (Or.inl ⟨by rfl, ?_⟩) ?_ ?_
     rotate_left
     ·
      intro w'
      go_simp
      with_reducible rfl
     rotate_left
     ·
      simp only [Act.put, List.setIfInBounds_toArray, List.set_cons_zero, List.set_cons_succ, i64_w, i32_w]
      rfl
     refine pure_ (i := 2) (N := some 151) (v := ?_) (a' := ?_) #[true, true, true, false, false, false, false, false, false, false, false, false, false, false, false, false, false, false, false, false, false, false, false, false, false, false, false, false, false, false] rfl rfl (by kernel_rfl) (fun _ _ _ h => h) (Or.inl ⟨by rfl, ?_⟩) ?_ ?_
     rotate_left
     ·
      intro w'
      go_simp
      with_reducible rfl
     rotate_left
     ·
      simp only [Act.put, List.setIfInBounds_toArray, List.set_cons_zero, List.set_cons_succ, i64_w, i32_w]
      rfl
     refine pure_ (i := 3) (N := some 152) (v := ?_) (a' := ?_) #[true, true, true, true, false, false, false, false, false, false, false, false, false, false, false, false, false, false, false, false, false, false, false, false, false, false, false, false, false, false] rfl rfl (by kernel_rfl) (fun _ _ _ h => h) (Or.inl ⟨by rfl, ?_⟩) ?_ ?_
     rotate_left
     ·
      intro w'
      go_simp
      with_reducible rfl
     rotate_left
     ·
      simp only [Act.put, List.setIfInBounds_toArray, List.set_cons_zero, List.set_cons_succ, i64_w, i32_w]
      rfl
     refine take_ (i := 4) (N := some 153) (v := ?_) (a' := ?_) #[true, true, true, true, true, false, false, false, false, false, false, false, false, false, false, false, false, false, false, false, false, false, false, false, false, false, false, false, false, false] rfl rfl (by kernel_rfl) (fun _ _ _ h => h) (Or.inl ⟨by rfl, ?_⟩) hHeld ?_ ?_
     rotate_left
     ·
      rintro w' s0
      go_simp
      with_reducible rfl
     rotate_left
     ·
      simp only [Act.put, List.setIfInBounds_toArray, List.set_cons_zero, List.set_cons_succ, i64_w, i32_w]
      rfl
     refine pure_ (i := 5) (N := some 154) (v := ?_) (a' := ?_) #[true, true, true, true, true, true, false, false, false, false, false, false, false, false, false, false, false, false, false, false, false, false, false, false, false, false, false, false, false, false] rfl rfl (by kernel_rfl) (fun _ _ _ h => h) (Or.inl ⟨by rfl, ?_⟩) ?_ ?_
     rotate_left
     ·
      intro w'
      go_simp
      with_reducible rfl
     rotate_left
     ·
      simp only [Act.put, List.setIfInBounds_toArray, List.set_cons_zero, List.set_cons_succ, i64_w, i32_w]
      rfl
     refine pure_ (i := 6) (N := some 155) (v := ?_) (a' := ?_) #[true, true, true, true, true, true, true, false, false, false, false, false, false, false, false, false, false, false, false, false, false, false, false, false, false, false, false, false, false, false] rfl rfl (by kernel_rfl) (fun _ _ _ h => h) (Or.inl ⟨by rfl, ?_⟩) ?_ ?_
     rotate_left
     ·
      intro w'
      go_simp
      with_reducible rfl
     rotate_left
     ·
      simp only [Act.put, List.setIfInBounds_toArray, List.set_cons_zero, List.set_cons_succ, i64_w, i32_w]
      rfl
     refine pure_ (i := 7) (N := some 156) (v := ?_) (a' := ?_) #[true, true, true, true, true, true, true, true, false, false, false, false, false, false, false, false, false, false, false, false, false, false, false, false, false, false, false, false, false, false] rfl rfl (by kernel_rfl) (fun _ _ _ h => h) (Or.inl ⟨by rfl, ?_⟩) ?_ ?_
     rotate_left
     ·
      intro w'
      go_simp
      with_reducible rfl
     rotate_left
     ·
      simp only [Act.put, List.setIfInBounds_toArray, List.set_cons_zero, List.set_cons_succ, i64_w, i32_w]
      rfl
     refine pure_ (i := 8) (N := some 157) (v := ?_) (a' := ?_) #[true, true, true, true, true, true, true, true, true, false, false, false, false, false, false, false, false, false, false, false, false, false, false, false, false, false, false, false, false, false] rfl rfl (by kernel_rfl) (fun _ _ _ h => h) (Or.inl ⟨by rfl, ?_⟩) ?_ ?_
     rotate_left
     ·
      intro w'
      go_simp
      with_reducible rfl
     rotate_left
     ·
      simp only [Act.put, List.setIfInBounds_toArray, List.set_cons_zero, List.set_cons_succ, i64_w, i32_w]
      rfl
     refine pure_ (i := 9) (N := some 158) (v := ?_) (a' := ?_) #[true, true, true, true, true, true, true, true, true, true, false, false, false, false, false, false, false, false, false, false, false, false, false, false, false, false, false, false, false, false] rfl rfl (by kernel_rfl) (fun _ _ _ h => h) (Or.inl ⟨by rfl, ?_⟩) ?_ ?_
     rotate_left
     ·
      intro w'
      go_simp
      with_reducible rfl
     rotate_left
     ·
      simp only [Act.put, List.setIfInBounds_toArray, List.set_cons_zero, List.set_cons_succ, i64_w, i32_w]
      rfl
     refine take_ (i := 10) (N := some 159) (v := ?_) (a' := ?_) #[true, true, true, true, true, true, true, true, true, true, true, false, false, false, false, false, false, false, false, false, false, false, false, false, false, false, false, false, false, false] rfl rfl (by kernel_rfl) (fun _ _ _ h => h) (Or.inl ⟨by rfl, ?_⟩) hHeld ?_ ?_
     rotate_left
     ·
      rintro w' s0
      go_simp
      with_reducible rfl
     rotate_left
     ·
      simp only [Act.put, List.setIfInBounds_toArray, List.set_cons_zero, List.set_cons_succ, i64_w, i32_w]
      rfl
     refine pure_ (i := 11) (N := some 160) (v := ?_) (a' := ?_) #[true, true, true, true, true, true, true, true, true, true, true, true, false, false, false, false, false, false, false, false, false, false, false, false, false, false, false, false, false, false] rfl rfl (by kernel_rfl) (fun _ _ _ h => h) (Or.inl ⟨by rfl, ?_⟩) ?_ ?_
     rotate_left
     ·
      intro w'
      go_simp
      with_reducible rfl
     rotate_left
     ·
      simp only [Act.put, List.setIfInBounds_toArray, List.set_cons_zero, List.set_cons_succ, i64_w, i32_w]
      rfl
     refine pure_ (i := 12) (N := some 161) (v := ?_) (a' := ?_) #[true, true, true, true, true, true, true, true, true, true, true, true, true, false, false, false, false, false, false, false, false, false, false, false, false, false, false, false, false, false] rfl rfl (by kernel_rfl) (fun _ _ _ h => h) (Or.inl ⟨by rfl, ?_⟩) ?_ ?_
     rotate_left
     ·
      intro w'
      go_simp
      with_reducible rfl
     rotate_left
     ·
      simp only [Act.put, List.setIfInBounds_toArray, List.set_cons_zero, List.set_cons_succ, i64_w, i32_w]
      rfl
     refine pure_ (i := 13) (N := some 162) (v := ?_) (a' := ?_) #[true, true, true, true, true, true, true, true, true, true, true, true, true, true, false, false, false, false, false, false, false, false, false, false, false, false, false, false, false, false] rfl rfl (by kernel_rfl) (fun _ _ _ h => h) (Or.inl ⟨by rfl, ?_⟩) ?_ ?_
     rotate_left
     ·
      intro w'
      go_simp
      with_reducible rfl
     rotate_left
     ·
      simp only [Act.put, List.setIfInBounds_toArray, List.set_cons_zero, List.set_cons_succ, i64_w, i32_w]
      rfl
     refine pure_ (i := 14) (N := some 163) (v := ?_) (a' := ?_) #[true, true, true, true, true, true, true, true, true, true, true, true, true, true, true, false, false, false, false, false, false, false, false, false, false, false, false, false, false, false] rfl rfl (by kernel_rfl) (fun _ _ _ h => h) (Or.inl ⟨by rfl, ?_⟩) ?_ ?_
     rotate_left
     ·
      intro w'
      go_simp
      with_reducible rfl
     rotate_left
     ·
      simp only [Act.put, List.setIfInBounds_toArray, List.set_cons_zero, List.set_cons_succ, i64_w, i32_w]
      rfl
     refine pure_ (i := 15) (N := some 164) (v := ?_) (a' := ?_) #[true, true, true, true, true, true, true, true, true, true, true, true, true, true, true, true, false, false, false, false, false, false, false, false, false, false, false, false, false, false] rfl rfl (by kernel_rfl) (fun _ _ _ h => h) (Or.inl ⟨by rfl, ?_⟩) ?_ ?_
     rotate_left
     ·
      intro w'
      go_simp
      with_reducible rfl
     rotate_left
     ·
      simp only [Act.put, List.setIfInBounds_toArray, List.set_cons_zero, List.set_cons_succ, i64_w, i32_w]
      rfl
     refine pure_ (i := 16) (N := some 165) (v := ?_) (a' := ?_) #[true, true, true, true, true, true, true, true, true, true, true, true, true, true, true, true, true, false, false, false, false, false, false, false, false, false, false, false, false, false] rfl rfl (by kernel_rfl) (fun _ _ _ h => h) (Or.inl ⟨by rfl, ?_⟩) ?_ ?_
     rotate_left
     ·
      intro w'
      go_simp
      with_reducible rfl
     rotate_left
     ·
      simp only [Act.put, List.setIfInBounds_toArray, List.set_cons_zero, List.set_cons_succ, i64_w, i32_w]
      rfl
     refine take_ (i := 17) (N := some 166) (v := ?_) (a' := ?_) #[true, true, true, true, true, true, true, true, true, true, true, true, true, true, true, true, true, true, false, false, false, false, false, false, false, false, false, false, false, false] rfl rfl (by kernel_rfl) (fun _ _ _ h => h) (Or.inl ⟨by rfl, ?_⟩) hHeld ?_ ?_
     rotate_left
     ·
      rintro w' s0
      go_simp
      with_reducible rfl
     rotate_left
     ·
      simp only [Act.put, List.setIfInBounds_toArray, List.set_cons_zero, List.set_cons_succ, i64_w, i32_w]
      rfl
     refine pure_ (i := 18) (N := some 167) (v := ?_) (a' := ?_) #[true, true, true, true, true, true, true, true, true, true, true, true, true, true, true, true, true, true, true, false, false, false, false, false, false, false, false, false, false, false] rfl rfl (by kernel_rfl) (fun _ _ _ h => h) (Or.inl ⟨by rfl, ?_⟩) ?_ ?_
     rotate_left
     ·
      intro w'
      go_simp
      with_reducible rfl
     rotate_left
     ·
      simp only [Act.put, List.setIfInBounds_toArray, List.set_cons_zero, List.set_cons_succ, i64_w, i32_w]
      rfl
     refine pure_ (i := 19) (N := some 168) (v := ?_) (a' := ?_) #[true, true, true, true, true, true, true, true, true, true, true, true, true, true, true, true, true, true, true, true, false, false, false, false, false, false, false, false, false, false] rfl rfl (by kernel_rfl) (fun _ _ _ h => h) (Or.inl ⟨by rfl, ?_⟩) ?_ ?_
     rotate_left
     ·
      intro w'
      go_simp
      with_reducible rfl
     rotate_left
     ·
      simp only [Act.put, List.setIfInBounds_toArray, List.set_cons_zero, List.set_cons_succ, i64_w, i32_w]
      rfl
     refine pure_ (i := 20) (N := some 169) (v := ?_) (a' := ?_) #[true, true, true, true, true, true, true, true, true, true, true, true, true, true, true, true, true, true, true, true, true, false, false, false, false, false, false, false, false, false] rfl rfl (by kernel_rfl) (fun _ _ _ h => h) (Or.inl ⟨by rfl, ?_⟩) ?_ ?_
     rotate_left
     ·
      intro w'
      go_simp
      with_reducible rfl
     rotate_left
     ·
      simp only [Act.put, List.setIfInBounds_toArray, List.set_cons_zero, List.set_cons_succ, i64_w, i32_w]
      rfl
     refine pure_ (i := 21) (N := some 170) (v := ?_) (a' := ?_) #[true, true, true, true, true, true, true, true, true, true, true, true, true, true, true, true, true, true, true, true, true, true, false, false, false, false, false, false, false, false] rfl rfl (by kernel_rfl) (fun _ _ _ h => h) (Or.inl ⟨by rfl, ?_⟩) ?_ ?_
     rotate_left
     ·
      intro w'
      go_simp
      with_reducible rfl
     rotate_left
     ·
      simp only [Act.put, List.setIfInBounds_toArray, List.set_cons_zero, List.set_cons_succ, i64_w, i32_w]
      rfl
     refine pure_ (i := 22) (N := some 171) (v := ?_) (a' := ?_) #[true, true, true, true, true, true, true, true, true, true, true, true, true, true, true, true, true, true, true, true, true, true, true, false, false, false, false, false, false, false] rfl rfl (by kernel_rfl) (fun _ _ _ h => h) (Or.inl ⟨by rfl, ?_⟩) ?_ ?_
     rotate_left
     ·
      intro w'
      go_simp
      with_reducible rfl
     rotate_left
     ·
      simp only [Act.put, List.setIfInBounds_toArray, List.set_cons_zero, List.set_cons_succ, i64_w, i32_w]
      rfl
     refine pure_ (i := 23) (N := some 172) (v := ?_) (a' := ?_) #[true, true, true, true, true, true, true, true, true, true, true, true, true, true, true, true, true, true, true, true, true, true, true, true, false, false, false, false, false, false] rfl rfl (by kernel_rfl) (fun _ _ _ h => h) (Or.inl ⟨by rfl, ?_⟩) ?_ ?_
     rotate_left
     ·
      intro w'
      go_simp
      with_reducible rfl
     rotate_left
     ·
      simp only [Act.put, List.setIfInBounds_toArray, List.set_cons_zero, List.set_cons_succ, i64_w, i32_w]
      rfl
     refine take_ (i := 24) (N := some 173) (v := ?_) (a' := ?_) #[true, true, true, true, true, true, true, true, true, true, true, true, true, true, true, true, true, true, true, true, true, true, true, true, true, false, false, false, false, false] rfl rfl (by kernel_rfl) (fun _ _ _ h => h) (Or.inl ⟨by rfl, ?_⟩) hHeld ?_ ?_
     rotate_left
     ·
      rintro w' s0
      go_simp
      with_reducible rfl
     rotate_left
     ·
      simp only [Act.put, List.setIfInBounds_toArray, List.set_cons_zero, List.set_cons_succ, i64_w, i32_w]
      rfl
     refine pure_ (i := 25) (N := some 174) (v := ?_) (a' := ?_) #[true, true, true, true, true, true, true, true, true, true, true, true, true, true, true, true, true, true, true, true, true, true, true, true, true, true, false, false, false, false] rfl rfl (by kernel_rfl) (fun _ _ _ h => h) (Or.inl ⟨by rfl, ?_⟩) ?_ ?_
     rotate_left
     ·
      intro w'
      go_simp
      with_reducible rfl
     rotate_left
     ·
      simp only [Act.put, List.setIfInBounds_toArray, List.set_cons_zero, List.set_cons_succ, i64_w, i32_w]
      rfl
     refine pure_ (i := 26) (N := some 175) (v := ?_) (a' := ?_) #[true, true, true, true, true, true, true, true, true, true, true, true, true, true, true, true, true, true, true, true, true, true, true, true, true, true, true, false, false, false] rfl rfl (by kernel_rfl) (fun _ _ _ h => h) (Or.inl ⟨by rfl, ?_⟩) ?_ ?_
     rotate_left
     ·
      intro w'
      go_simp
      with_reducible rfl
     rotate_left
     ·
      simp only [Act.put, List.setIfInBounds_toArray, List.set_cons_zero, List.set_cons_succ, i64_w, i32_w]
      rfl
     refine one_ (i := 27) (N := some 176) #[true, true, true, true, true, true, true, true, true, true, true, true, true, true, true, true, true, true, true, true, true, true, true, true, true, true, true, true, false, false] rfl rfl (by kernel_rfl) (by decide) (fun K hK => ?_)
     refine value_ (w1 := ?_) (v := ?_) (by rfl) rfl ?_ ?_
     rotate_left 2
     ·
      go_simp
      constructor
      · rfl
      · rfl
     refine hK.out _ _ ((World.cell?_alloc_lt _ _ _ (World.block_lt_of_cell? _ _ hHeld)).trans hHeld) (fun hHeld2 => ?_)
     clear hK K
     refine norm_ (a' := ?_) ?_ ?_
     rotate_left
     ·
      show Act.put _ (some 176) _ = _
      simp only [Act.put, List.setIfInBounds_toArray, List.set_cons_zero, List.set_cons_succ, i64_w, i32_w]
      rfl
     refine one_ (i := 28) (N := some 177) #[true, true, true, true, true, true, true, true, true, true, true, true, true, true, true, true, true, true, true, true, true, true, true, true, true, true, true, true, true, false] rfl rfl (by kernel_rfl) (by decide) (fun K hK => ?_)
     refine Kd.R_append_rows_step (Kd.int .u8) (w0 := W0) W0.heap.size (by rfl) (.tmp 149) (.tmp 176) 26 5 (.int .u8 0) 1 rfl Tryd.underlying26 info5 rfl (by decide) (by omega) (.slice A7 L7 c7) (outR T i) (b4 y) (some ⟨wd.heap.size, 0, none⟩) 4 4 (fun _ => True) (fun _ => False) (by first | rfl | (simp only [Act.eval]; rfl) | (go_simp; done)) (by first | rfl | (simp only [Act.eval]; rfl) | (go_simp; done)) (Kd.R_alloc HRd.out _) (C_lit (heap_alloc_new wd _) (by simp [b4])) (fun _ _ h => h) (fun _ h => h.elim) (fun _ _ => trivial) (HBd.out.alloc HBd.out.size _) (HBd.out.alloc HBd.out.size _).size hlen ?_
     intro v177 w9 ho hb hg hat
     have HR9 := Lib.hid ho
     have HB9 := Lib.hid hb
     clear ho hb hg hat
     refine hK.out _ _ (by rw [HY.out]; exact pw_cell_below HB9.out (HA.out.cell i (by omega))) (fun hHeld3 => ?_)
     clear hK K
     refine norm_ (a' := ?_) ?_ ?_
     rotate_left
     ·
      show Act.put _ (some 177) _ = _
      simp only [Act.put, List.setIfInBounds_toArray, List.set_cons_zero, List.set_cons_succ, i64_w, i32_w]
      rfl
     refine pure_ (i := 29) (N := some 14) (v := ?_) (a' := ?_) #[true, true, true, true, true, true, true, true, true, true, true, true, true, true, true, true, true, true, true, true, true, true, true, true, true, true, true, true, true, true] rfl rfl (by kernel_rfl) (fun _ _ _ h => h) (Or.inl ⟨by rfl, ?_⟩) ?_ ?_
     rotate_left
     ·
      intro w'
      go_simp
      with_reducible rfl
     rotate_left
     ·
      simp only [Act.put, List.setIfInBounds_toArray, List.set_cons_zero, List.set_cons_succ, i64_w, i32_w]
      rfl
     refine done_ (by kernel_rfl) ?_
     go_wp2_with fail
     go_roundw
     case rel => exact ⟨i + 1, by omega, by go_num, Lib.hid (by
      have e : outR T (i + 1) = outR T i ++ b4 y := by rw [HY.out]; unfold outR; rw [List.range_succ, List.flatMap_append]; simp
      rw [e]
      exact HR9.out), HB9⟩
     case measure => simp [intOf]; omega
    ·
     have hi88 : i = 8 := by omega
     subst hi88
     obtain ⟨A7, c7, rfl, hc7, hC7⟩ := Kd.R_reads HRo.out
     have hcv := Kd.C_string (P := Tryd.prog) (dst := 35) (c := c7) Tryd.underlying26 Tryd.underlying5 Tryd.underlying35 hC7
     go_wp2_with fail
     go_ret
     exact ⟨by rw [← HT.out]; rfl, HBr.out.trans (HBo.out.mono HBr.out.size)⟩
theorem refBlocks_walk (K : Nat) : ∀ (n : Nat) (H l R : List Int), H.length = 8 → refBlocks K n H l = some R →
  ∃ (Hn Wn : Nat → List Int), Hn 0 = H ∧ (∀ b, b < n → GR.grapevineref01_spread.f K ((l.drop (64 * b)).take 64) = some (Wn b) ∧ (Wn b).length = 64) ∧ (∀ b, b < n → Hn (b + 1) = addP (Hn b) (rSteps (Wn b) (Hn b) 64) 8) ∧ (∀ b, (Hn b).length = 8) ∧ Hn n = R
 | 0, H, l, R, h8, h => ⟨fun _ => H, fun _ => [], rfl, fun b hb => by omega, fun b hb => by omega, fun _ => h8, Option.some.inj h⟩
 | n + 1, H, l, R, h8, h => by
  unfold refBlocks at h
  cases hw : GR.grapevineref01_spread.f K (l.take 64) with
  | none => rw [hw] at h; exact absurd h (by simp)
  | some W =>
   rw [hw, Option.bind_some] at h
   by_cases hl : W.length = 64
   ·
    rw [if_pos hl] at h
    obtain ⟨Hn, Wn, h1, h2, h3, h4, h5⟩ := refBlocks_walk K n _ _ R (by rw [addP_length]; exact h8) h
    refine ⟨fun b => match b with | 0 => H | b + 1 => Hn b, fun b => match b with | 0 => W | b + 1 => Wn b, rfl, ?_, ?_, ?_, h5⟩
    ·
     intro b hb
     match b with
     | 0 => exact ⟨by simpa using hw, hl⟩
     | b + 1 =>
      have := h2 b (by omega)
      rw [List.drop_drop] at this
      rw [show 64 * (b + 1) = 64 + 64 * b by omega]
      exact this
    ·
     intro b hb
     match b with
     | 0 => exact h1
     | b + 1 => exact h3 b (by omega)
    ·
     intro b
     match b with
     | 0 => exact h8
     | b + 1 => exact h4 b
   ·
    rw [if_neg hl] at h
    exact absurd h (by simp)
def ref_Of.f (l0 : List Int) : Option ByteArray := (GR.grapevineref01_filled.f 200 l0).bind fun L => if L.length = 64 * (L.length / 64) ∧ L.length ≤ 70368744177664 then (refBlocks 200 (L.length / 64) H0 L).map fun H => strOfNums (outR H 8) else none
theorem ref_Of.calls (A0 : Option Addr) (c0 : Nat) (l0 : List Int) (r : ByteArray) (w : World) (hr0 : Kd.C (Kd.int .u8) w A0 l0.length l0) (hc0 : l0.length ≤ c0) (hG : GK w) (h : ref_Of.f l0 = some r) :
  Calls Tryd.prog 22 #[.slice A0 l0.length c0] w fun e w' => e = .returned (.string r) ∧ Below w.heap.size w w' := by
 unfold ref_Of.f at h
 cases hf : GR.grapevineref01_filled.f 200 l0 with
 | none => rw [hf] at h; exact absurd h (by simp)
 | some L =>
  rw [hf, Option.bind_some] at h
  by_cases hc : L.length = 64 * (L.length / 64) ∧ L.length ≤ 70368744177664
  ·
   rw [if_pos hc] at h
   obtain ⟨H, hH, rfl⟩ := Option.map_eq_some_iff.1 h
   obtain ⟨Hn, Wn, h1, h2, h3, h4, h5⟩ := refBlocks_walk 200 _ _ _ _ rfl hH
   rw [← h5]
   exact ref_walk A0 c0 l0 w hr0 hc0 hG L 200 hf (L.length / 64) hc.1 hc.2 Hn Wn h1 h2 h3 h4
  ·
   rw [if_neg hc] at h
   exact absurd h (by simp)
end Go.Proofs.YtembjjombhfglaaDoor.G
