import Derived.Test.YtembjjombhfglaaDoorG0
import Derived.Test.YtembjjombhfglaaDoorGX
import Derived.Outline
namespace Go.Proofs.YtembjjombhfglaaDoor.G
open Go.RowKit Go.Proofs.YtembjjombhfglaaDoorW.PrintWords Go.Proofs.YtembjjombhfglaaDoorW.PrintLast Go.Proofs.YtembjjombhfglaaDoorW.PrintMore
set_option linter.unusedVariables false
set_option linter.unusedSimpArgs false
def cells50 (xs : List S50) : List Value := xs.flatMap fun x => [.string x.f0, .string x.f1]
theorem cells50_nil : cells50 [] = [] := rfl
theorem cells50_cons (x : S50) (xs : List S50) : cells50 (x :: xs) = .string x.f0 :: .string x.f1 :: cells50 xs := rfl
theorem cells50_append (xs ys : List S50) : cells50 (xs ++ ys) = cells50 xs ++ cells50 ys := by simp [cells50]
theorem cells50_length : ∀ xs : List S50, (cells50 xs).length = xs.length * 2
 | [] => rfl
 | x :: xs => by rw [cells50_cons]; simp [cells50_length xs]; omega
theorem cells50_take : ∀ (xs : List S50) (i : Nat), cells50 (xs.take i) = (cells50 xs).take (i * 2)
 | [], i => by simp [cells50_nil]
 | x :: xs, 0 => by simp [cells50_nil]
 | x :: xs, i + 1 => by rw [List.take_succ_cons, cells50_cons, cells50_cons, cells50_take xs i, show (i + 1) * 2 = i * 2 + 1 + 1 by omega, List.take_succ_cons, List.take_succ_cons]
theorem cells50_drop : ∀ (xs : List S50) (i : Nat), cells50 (xs.drop i) = (cells50 xs).drop (i * 2)
 | [], i => by simp [cells50_nil]
 | x :: xs, 0 => by simp
 | x :: xs, i + 1 => by rw [List.drop_succ_cons, cells50_cons, cells50_drop xs i, show (i + 1) * 2 = i * 2 + 1 + 1 by omega, List.drop_succ_cons, List.drop_succ_cons]
theorem cells50_one (xs : List S50) : ∀ u ∈ cells50 xs, u.oneCell' = true := by
 intro u hu
 obtain ⟨x, _, hx⟩ := List.mem_flatMap.1 hu
 simp at hx
 rcases hx with rfl | rfl <;> rfl
theorem reps50 {w : World} {base : Nat} {ok : Nat → Prop} : ∀ xs : List S50, Reps (k50.M w base ok) 2 xs (cells50 xs)
 | [] => Reps.none _ _
 | x :: xs => Reps.c2 (k50_mkM w base ok x) (reps50 xs)
theorem reps50_eq {w : World} {base : Nat} {ok : Nat → Prop} : ∀ {xs : List S50} {cs : List Value}, Reps (k50.M w base ok) 2 xs cs → cs = cells50 xs
 | [], cs, h => List.eq_nil_of_length_eq_zero (by have := h.1; simpa using this)
 | x :: xs, cs, h => by
  have h0 := k50_openM (h.2 0 x rfl)
  have hl := h.1
  simp only [List.length_cons] at hl
  simp only [Nat.zero_mul, List.drop_zero] at h0
  have h1 : Reps (k50.M w base ok) 2 xs (cs.drop 2) := by
   refine ⟨by rw [List.length_drop]; omega, fun j p hj => ?_⟩
   have := h.2 (j + 1) p (by simpa using hj)
   rwa [List.drop_drop, show 2 + j * 2 = (j + 1) * 2 by omega]
  have h2 := reps50_eq h1
  rw [← List.take_append_drop 2 cs, h0, h2]
  rfl
theorem R50_open {w : World} {base : Nat} {ok : Nat → Prop} {v : Value} {xs : List S50} (h : Kd.R k50 50 w base ok v xs) : (∀ k, v.ownBlock = some k → ok k) ∧ w.ownsRow base 50 2 v xs.length (cells50 xs) := by
 obtain ⟨h0, inner, h1, h2⟩ := h
 rw [reps50_eq h2] at h1
 exact ⟨h0, h1⟩
theorem R50_mk {w : World} {base : Nat} {ok : Nat → Prop} {v : Value} {xs : List S50} (h0 : ∀ k, v.ownBlock = some k → ok k) (h1 : w.ownsRow base 50 2 v xs.length (cells50 xs)) : Kd.R k50 50 w base ok v xs := ⟨h0, cells50 xs, h1, reps50 xs⟩
theorem zeroValue50 (w : World) : (zeroValue 50).run Tryd.prog w = .ok (.agg #[.string ⟨#[]⟩, .string ⟨#[]⟩]) w := by kernel_rfl
theorem zeros50 : ∀ n : Nat, (Builtin.zeroCells (Value.agg #[.string ⟨#[]⟩, .string ⟨#[]⟩]).cells n).toList = List.replicate (n * 2) (.string ⟨#[]⟩) := by
 intro n
 have hc : (Value.agg #[.string ⟨#[]⟩, .string ⟨#[]⟩]).cells = #[.string ⟨#[]⟩, .string ⟨#[]⟩] := by rfl
 rw [hc]
 apply List.ext_getElem
 · simp [Builtin.zeroCells]
 ·
  intro i h1 h2
  simp [Builtin.zeroCells]
  rcases Nat.mod_two_eq_zero_or_one i with h | h <;> simp [h]
theorem del_list {α : Type} (C D Z : List α) (p q : Nat) (hq : D.length = q) (hpq : p + q ≤ C.length) :
  ((C.take p ++ D ++ C.drop (p + D.length)).take (p + q) ++ Z ++ (C.take p ++ D ++ C.drop (p + D.length)).drop (p + q + Z.length)).take (p + q) = C.take p ++ D := by
 have h1 : (C.take p ++ D).length = p + q := by simp [hq]; omega
 have h2 : (C.take p ++ D ++ C.drop (p + D.length)).take (p + q) = C.take p ++ D := by rw [← h1, List.take_left']; rfl
 rw [h2, List.append_assoc, ← h1, List.take_left']
 rfl
def delete_files.f (l0 : List S50) (a1 a2 : Int) : Option (List S50) := if 0 ≤ a1 ∧ a1 < a2 ∧ a2 ≤ (l0.length : Int) then some (l0.take a1.toNat ++ l0.drop a2.toNat) else none
set_option maxHeartbeats 4000000 in
set_option maxRecDepth 1000000 in
theorem delete_walk (g n cap i j : Nat) (cur : Array Value) (l0 : List S50) (w : World) (hb : w.heap[g]? = some (.cells cur 50 (0, 0))) (hn : l0.length = n) (hnc : n ≤ cap) (hm : cap ≤ 9223372036854775807) (hcs : cur.size = cap * 2) (htk : cur.toList.take (n * 2) = cells50 l0) (hlt : i < j) (hj : j ≤ n) :
  Calls Tryd.prog 52 #[.slice (some ⟨g, 0, none⟩) n cap, .int .i64 i, .int .i64 j] w fun e w' => e = .returned (.slice (some ⟨g, 0, none⟩) (n - (j - i)) cap) ∧ w' = (w.drew.setCells g (i * 2) (cells50 (l0.drop j))).setCells g ((i + (n - j)) * 2) (List.replicate ((j - i) * 2) (.string ⟨#[]⟩)) := by
 obtain ⟨i0, hi0, hz0, hz1, hz2⟩ := info_parts info50
 obtain ⟨news, hnews⟩ : ∃ news, news = cells50 (l0.drop j) := ⟨_, rfl⟩
 have hlen : news.length = (n - j) * 2 := by rw [hnews, cells50_length, List.length_drop, hn]
 have hcell : ∀ k, w.cell? ⟨g, k, none⟩ = cur[k]? := zD hb
 have hget : ∀ t u, news[t]? = some u → w.drew.cell? ⟨g, j * 2 + t, none⟩ = some u := by
  intro t u hu
  show w.cell? _ = _
  rw [hcell]
  have ht : t < (n - j) * 2 := by rw [← hlen]; exact (List.getElem?_eq_some_iff.1 hu).1
  rw [hnews, cells50_drop, List.getElem?_drop, ← htk, List.getElem?_take, if_pos (by omega)] at hu
  simpa using hu
 obtain ⟨A, hA, hsrc⟩ : ∃ A : Addr, (if cap = j then some (⟨g, 0, none⟩ : Addr) else some ⟨g, j * 2, none⟩) = some A ∧ Hid (∀ t u, news[t]? = some u → w.drew.cell? (A.add t) = some u) := by
  by_cases h : cap = j
  ·
   refine ⟨⟨g, 0, none⟩, by simp [h], fun t u hu => ?_⟩
   have h0 : news.length = 0 := by rw [hlen]; omega
   rw [List.length_eq_zero_iff.1 h0] at hu
   simp at hu
  · exact ⟨⟨g, j * 2, none⟩, by simp [h], fun t u hu => by rw [Addr.add_lit]; exact hget t u hu⟩
 have s1 : Hid (news.length = (n - j) * 2) := hlen
 have s2 : Hid (∀ u ∈ news, u.oneCell' = true) := by rw [hnews]; exact cells50_one _
 have s3 : Hid (∀ t, t < news.length → (w.drew.cell? ⟨g, 0 + i * 2 + t, none⟩).isSome = true ∧ w.drew.frozen? ⟨g, 0 + i * 2 + t, none⟩ = false) := by
  intro t ht
  rw [hlen] at ht
  refine ⟨?_, zH (w := w) hb _⟩
  show (w.cell? _).isSome = true
  rw [hcell, Array.getElem?_eq_getElem (by omega)]
  rfl
 obtain ⟨W1, hW1⟩ : ∃ W1, W1 = w.drew.setCells g (0 + i * 2) news := ⟨_, rfl⟩
 obtain ⟨cur1, hb1, hcur1⟩ := blk_setCells g news (0 + i * 2) w.drew cur hb (by rw [hlen]; omega)
 rw [← hW1] at hb1
 have hsz1 : cur1.size = cap * 2 := by
  have : cur1.toList.length = cap * 2 := by rw [hcur1]; simp [hlen, hcs]; omega
  simpa using this
 have hcl : ∀ ty, (Builtin.clear_ #[39] ty #[.slice (some ⟨g, (i + (n - j)) * 2, none⟩) (n - (i + (n - j))) (cap - (i + (n - j)))]).run Tryd.prog W1 = .ok (.tuple #[]) (W1.setCells g ((i + (n - j)) * 2) (List.replicate ((n - (i + (n - j))) * 2) (.string ⟨#[]⟩))) :=
  fun ty => clear_cells W1 39 50 ty _ Tryd.underlying39 zeroValue50 _ g ((i + (n - j)) * 2) _ _ (zeros50 _) (by intro v hv; rw [List.eq_of_mem_replicate hv]; rfl)
   (fun t ht => by rw [zD hb1]; simp at ht; rw [Array.getElem?_eq_getElem (by omega)]; rfl) (fun t ht => zH hb1 _) (by omega)
 have hW : Hid (W1 = w.drew.setCells g (0 + i * 2) news) := hW1
 have X : Aside0 (W1 = w.drew.setCells g (i * 2) news) := ⟨by rw [hW1, Nat.zero_add]⟩
 have N : Aside0 (news = cells50 (l0.drop j)) := ⟨hnews⟩
 have hic : i ≤ cap := by omega
 have hjc : j ≤ cap := by omega
 have hne : ((i : Int) == (j : Int)) = false := by simp; omega
 clear hW1 hb1 hcur1 hsz1 hb hcell hget hnews hlen htk hcs
 go_enter Tryd.func52, Tryd.ntmps52
 go_wp2_with fail
 go_region_law (refine step_append_room rfl (.tmp 22) (.tmp 25) 39 rfl 50 i0 2 Tryd.underlying39 hi0 hz1 g 0 i cap (by simp [Act.eval, Act.put]) A (n - j) (cap - j) news (by simp [Act.eval, Act.put]) s1.out hsrc.out s2.out (by omega) s3.out ?_; rw [← hW.out])
 go_wp2
 go_ret
 refine ⟨by rw [show n - (j - i) = i + (n - j) by omega]; rfl, ?_⟩
 rw [← N.out, ← X.out, show n - (i + (n - j)) = j - i by omega]
theorem delete_files.calls (P0_ : Nat → Prop) (u9000_ : Value) (l0 : List S50) (a1 a2 : Int) (r : List S50) (w0 w : World) (hB : Below w0.heap.size w0 w) (ho0 : Kd.R k50 50 w w0.heap.size P0_ u9000_ l0) (h : delete_files.f l0 a1 a2 = some r) :
  Calls Tryd.prog 52 #[u9000_, .int .i64 a1, .int .i64 a2] w fun e w' => ∃ v0_ : Value, e = .returned (v0_) ∧ Kd.R k50 50 w' w0.heap.size (fun k_ => (P0_ k_ ∨ w.heap.size ≤ k_)) v0_ r ∧ Below w0.heap.size w0 w' ∧ Kept w w' (fun k_ => P0_ k_) := by
 unfold delete_files.f at h
 by_cases hc : 0 ≤ a1 ∧ a1 < a2 ∧ a2 ≤ (l0.length : Int)
 ·
  rw [if_pos hc] at h
  obtain rfl := Option.some.inj h
  obtain ⟨h1, h2, h3⟩ := hc
  obtain ⟨i, rfl⟩ := Int.eq_ofNat_of_zero_le h1
  obtain ⟨j, rfl⟩ := Int.eq_ofNat_of_zero_le (show 0 ≤ a2 by omega)
  simp only [Int.toNat_natCast]
  have hlt : i < j := by omega
  have hj : j ≤ l0.length := by omega
  obtain ⟨hok, hlen, ho⟩ := R50_open ho0
  rcases ho with ⟨_, ho⟩ | ⟨g, cap, cur, rfl, hg, hb, hnc, hm, hcs, htk⟩
  · omega
  ·
   have hP : P0_ g := hok g rfl
   simp only [maxLen] at hm
   refine (delete_walk g l0.length cap i j cur l0 w hb rfl hnc hm hcs htk hlt hj).mono ?_
   rintro e w' ⟨rfl, rfl⟩
   have hl1 : (cells50 (l0.drop j)).length = (l0.length - j) * 2 := by rw [cells50_length, List.length_drop]
   obtain ⟨cur1, hb1, hcur1⟩ := blk_setCells g (cells50 (l0.drop j)) (i * 2) w.drew cur hb (by rw [hl1]; omega)
   have hsz1 : cur1.size = cap * 2 := by
    have : cur1.toList.length = cap * 2 := by rw [hcur1]; simp [hl1, hcs]; omega
    simpa using this
   obtain ⟨cur2, hb2, hcur2⟩ := blk_setCells g (List.replicate ((j - i) * 2) (.string ⟨#[]⟩)) ((i + (l0.length - j)) * 2) _ cur1 hb1 (by simp; omega)
   have hsz2 : cur2.size = cap * 2 := by
    have : cur2.toList.length = cap * 2 := by rw [hcur2]; simp [hsz1]; omega
    simpa using this
   have hrl : (l0.take i ++ l0.drop j).length = l0.length - (j - i) := by simp; omega
   refine ⟨_, rfl, R50_mk (fun k hk => ?_) ⟨by rw [cells50_length], .inr ⟨g, cap, cur2, by rw [hrl], hg, hb2, by rw [hrl]; omega, by simp only [maxLen]; omega, hsz2, ?_⟩⟩, ?_, ?_⟩
   ·
    have : g = k := by simpa [Value.ownBlock] using hk
    subst this
    exact .inl hP
   ·
    have e1 : (l0.length - (j - i)) * 2 = i * 2 + (l0.length - j) * 2 := by omega
    have e2 : (i + (l0.length - j)) * 2 = i * 2 + (l0.length - j) * 2 := by omega
    rw [hrl, cells50_append, cells50_take, hcur2, hcur1, e1, e2, del_list cur.toList _ _ _ _ hl1 (by simp [hcs]; omega), ← htk, List.take_take, Nat.min_eq_left (by omega)]
   · exact setCells_below (setCells_below (below_drew hB) hg _ _) hg _ _
   ·
    refine ⟨by rw [setCells_size, setCells_size]; exact Nat.le_refl _, fun k hk hn => ?_⟩
    have hne : k ≠ g := fun e => hn (e ▸ hP)
    rw [setCells_far _ _ _ _ _ hne, setCells_far _ _ _ _ _ hne]
    rfl
 ·
  rw [if_neg hc] at h
  cases h
end Go.Proofs.YtembjjombhfglaaDoor.G
