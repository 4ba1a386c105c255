import Derived.Test.YtembjjombhfglaaDoorG0
import Derived.WalkSpells
namespace Go.Proofs.YtembjjombhfglaaDoor.G
open Go.RowKit Go.Proofs.YtembjjombhfglaaDoorW.PrintWords Go.Proofs.YtembjjombhfglaaDoorW.PrintLast Go.Proofs.YtembjjombhfglaaDoorW.PrintMore
set_option linter.unusedVariables false
set_option linter.unusedSimpArgs false
theorem C_nil_list {α : Type} {d : Kd α} {w : World} {n : Nat} {xs : List α} (h : Kd.C d w none n xs) : xs = [] := by
 rcases Nat.eq_zero_or_pos n with h0 | h0
 · exact List.eq_nil_of_length_eq_zero (h.1.trans h0)
 ·
  obtain ⟨ad, h, _⟩ := h.2.2 h0
  cases h
def clone_bytes.f (l0 : List Int) : Option (List Int) := if l0.length < 140737488355328 then some l0 else none
set_option maxHeartbeats 8000000 in
set_option maxRecDepth 100000 in
theorem clone_bytes.calls (A0 : Option Addr) (c0 : Nat) (l0 : List Int) (r : List Int) (w : World) (hr0 : Kd.C (Kd.int .u8) w A0 l0.length l0) (hc0 : l0.length ≤ c0) (h : clone_bytes.f l0 = some r) :
  Calls Tryd.prog 43 #[.slice A0 l0.length c0] w fun e w' => ∃ v0_ : Value, e = .returned (v0_) ∧ Kd.R (Kd.int .u8) 5 w' w.heap.size (fun _ => True) v0_ r ∧ Below w.heap.size w w' := by
 have HR0 := Aside0.mk hr0
 have HC0 := Aside0.mk hc0
 clear hr0 hc0
 have HB := Aside0.mk (Below.refl w.heap.size w)
 unfold clone_bytes.f at h
 by_cases c4 : l0.length < 140737488355328
 ·
  rw [if_pos c4] at h
  have LMc4 := Aside0.mk c4
  clear c4
  obtain rfl := Option.some.inj h
  clear h
  rcases A0 with _ | ad
  ·
   have hl := C_nil_list HR0.out
   have hq := fun (w : World) (n c : Nat) => Lib.run_eql_slice_nil (P := Tryd.prog) w 26 5 none n c 0 0 Tryd.underlying26
   go_enter Tryd.func43, Tryd.ntmps43
   go_wp2
   go_ret
   subst hl
   exact ⟨_, rfl, Kd.R_nil _ _ _ _ _, Below.refl _ _⟩
  ·
   have hq := fun (w : World) (n c : Nat) => Lib.run_eql_slice_nil (P := Tryd.prog) w 26 5 (some ad) n c 0 0 Tryd.underlying26
   go_enter Tryd.func43, Tryd.ntmps43
   go_wp2_with (first | ((with_reducible refine gate_dst (N := 5) rfl ?_); refine Kd.R_lit (Kd.int .u8) _ 5 ?hg (N := 5) ?hd (xs := ([] : List Int)) (inner := []) (ok := fun _ => True) (okp := fun _ => True) ?hr ?hp (fun _ hk => hk) trivial (Below.refl _ _) (Nat.le_refl _) (by simp) ?_; (case hd => rfl); (case hg => rfl); (case hr => first | (go_simp; done) | (go_simp; rfl)); (case hp => exact (Reps.none _ _)); intro v192 w4 ho5 hb hg_ hnew_; clear hg_ hnew_; have HO193 := Aside0.mk ho5; have HB1 := Aside0.mk hb; clear ho5 hb HB) | ((with_reducible refine gate_builtin (b := .append) (xs := #[.tmp 5, .tmp 6]) rfl ?_); at_builtin; refine Kd.R_append_rows (Kd.int .u8) (w0 := w) w.heap.size rfl (.tmp 5) (.tmp 6) 26 5 (.int .u8 0) 1 rfl Tryd.underlying26 info5 rfl (by decide) (by omega) v192 ([] : List Int) l0 _ _ _ (fun _ => True) (fun _ => False) rfl rfl ?aO ?aR (fun _ _ h => h) (fun _ h => h.elim) ?aF ?aB ?aS ?aL ?_; (case aR => exact (Kd.C_below HR0.out HB1.out)); (case aB => exact HB1.out); (case aF => exact (fun _ _ => trivial)); (case aO => exact HO193.out); (case aS => exact HB1.out.size); (case aL => have := LMc4.out; simp only [List.length_nil, Nat.zero_add]; omega); intro v114 w6 ho hb hg hat; have HO2 := Aside0.mk ho; have HB2 := Aside0.mk hb; clear ho hb hg hat))
   go_ret
   exact ⟨_, rfl, HO2.out, HB2.out⟩
 ·
  rw [if_neg c4] at h
  exact absurd h (by simp)
def clone_files.f (l0 : List S50) : Option (List S50) := if l0.length < 4398046511104 then some l0 else none
set_option maxHeartbeats 8000000 in
set_option maxRecDepth 100000 in
theorem clone_files.calls (A0 : Option Addr) (c0 : Nat) (l0 : List S50) (r : List S50) (w : World) (hr0 : Kd.C k50 w A0 l0.length l0) (hc0 : l0.length ≤ c0) (h : clone_files.f l0 = some r) :
  Calls Tryd.prog 31 #[.slice A0 l0.length c0] w fun e w' => ∃ v0_ : Value, e = .returned (v0_) ∧ Kd.R k50 50 w' w.heap.size (fun _ => True) v0_ r ∧ Below w.heap.size w w' := by
 have HR0 := Aside0.mk hr0
 have HC0 := Aside0.mk hc0
 clear hr0 hc0
 have HB := Aside0.mk (Below.refl w.heap.size w)
 unfold clone_files.f at h
 by_cases c4 : l0.length < 4398046511104
 ·
  rw [if_pos c4] at h
  have LMc4 := Aside0.mk c4
  clear c4
  obtain rfl := Option.some.inj h
  clear h
  rcases A0 with _ | ad
  ·
   have hl := C_nil_list HR0.out
   have hq := fun (w : World) (n c : Nat) => Lib.run_eql_slice_nil (P := Tryd.prog) w 39 50 none n c 0 0 Tryd.underlying39
   go_enter Tryd.func31, Tryd.ntmps31
   go_wp2
   go_ret
   subst hl
   exact ⟨_, rfl, Kd.R_nil _ _ _ _ _, Below.refl _ _⟩
  ·
   have hq := fun (w : World) (n c : Nat) => Lib.run_eql_slice_nil (P := Tryd.prog) w 39 50 (some ad) n c 0 0 Tryd.underlying39
   go_enter Tryd.func31, Tryd.ntmps31
   go_wp2_with (first | ((with_reducible refine gate_dst (N := 5) rfl ?_); refine Kd.R_lit k50 _ 50 ?hg (N := 5) ?hd (xs := ([] : List S50)) (inner := []) (ok := fun _ => True) (okp := fun _ => True) ?hr ?hp (fun _ hk => hk) trivial (Below.refl _ _) (Nat.le_refl _) (by simp) ?_; (case hd => rfl); (case hg => rfl); (case hr => first | (go_simp; done) | (go_simp; rfl)); (case hp => exact (Reps.none _ _)); intro v192 w4 ho5 hb hg_ hnew_; clear hg_ hnew_; have HO193 := Aside0.mk ho5; have HB1 := Aside0.mk hb; clear ho5 hb HB) | ((with_reducible refine gate_builtin (b := .append) (xs := #[.tmp 5, .tmp 6]) rfl ?_); at_builtin; refine Kd.R_append_rows k50 (w0 := w) w.heap.size rfl (.tmp 5) (.tmp 6) 39 50 (.agg #[(.string ⟨#[]⟩), (.string ⟨#[]⟩)]) 32 rfl Tryd.underlying39 info50 rfl (by decide) (by omega) v192 ([] : List S50) l0 _ _ _ (fun _ => True) (fun _ => False) rfl rfl ?aO ?aR (fun _ _ h => h) (fun _ h => h.elim) ?aF ?aB ?aS ?aL ?_; (case aR => exact (Kd.C_below HR0.out HB1.out)); (case aB => exact HB1.out); (case aF => exact (fun _ _ => trivial)); (case aO => exact HO193.out); (case aS => exact HB1.out.size); (case aL => have := LMc4.out; simp only [List.length_nil, Nat.zero_add]; omega); intro v114 w6 ho hb hg hat; have HO2 := Aside0.mk ho; have HB2 := Aside0.mk hb; clear ho hb hg hat))
   go_ret
   exact ⟨_, rfl, HO2.out, HB2.out⟩
 ·
  rw [if_neg c4] at h
  exact absurd h (by simp)
end Go.Proofs.YtembjjombhfglaaDoor.G
