import Derived.Test.YtembjjombhfglaaDoorGP4
namespace Go.Proofs.YtembjjombhfglaaDoor.G
open Go.RowKit Go.Proofs.YtembjjombhfglaaDoorW.PrintWords Go.Proofs.YtembjjombhfglaaDoorW.PrintLast Go.Proofs.YtembjjombhfglaaDoorW.PrintMore
set_option linter.unusedVariables false
set_option linter.unusedSimpArgs false
theorem R_ne {α : Type} {d : Kd α} {e base : Nat} {w : World} {ok : Nat → Prop} {v : Value} {xs : List α} (h : d.R e w base ok v xs) {g t : Nat} {cells : Array Value} (hb : w.heap[g]? = some (.cells cells t (0, 0))) (ht : ∀ q, q ∈ e :: d.E → q ≠ t) : d.R e w base (fun k => ok k ∧ k ≠ g) v xs :=
 Kd.R_mono (Kd.R_bound h) (fun k hk => ⟨hk.1, by
  rintro rfl
  obtain ⟨q, hq, cells', hc⟩ := hk.2.2.2
  rw [hb] at hc
  injection hc with hc
  injection hc with _ h2 _
  exact ht q hq h2.symm⟩)
theorem ht35 (t : Nat) (h : t ≠ 35) : ∀ q, q ∈ 35 :: Kd.string.E → q ≠ t := by
 intro q hq
 have : q = 35 := by simpa [Kd.string, Kd.scalar] using hq
 omega
theorem ht48 (t : Nat) (h : t ≠ 48) : ∀ q, q ∈ 48 :: k48.E → q ≠ t := by
 intro q hq
 have : q = 48 := by simpa [k48, Kd.string, Kd.scalar, Kd.iso, Kd.pair, Kd.bool] using hq
 omega
theorem textR_len (m : Int) (l : List Int) (f : Int) : (textR m l f).2.1.length ≤ l.length := by
 unfold textR
 split
 ·
  split
  ·
   split
   · simp
   ·
    split
    · simp
    · simp
  · simp
 · simp
theorem numR_len (l : List Int) (f : Int) : (numR l f).2.1.length ≤ l.length := by
 unfold numR
 split
 · split <;> simp
 · simp
structure PSt (w0 w W : World) (g gr : Nat) (l : List Int) (f : Int) (lo od : Bool) (ok3 : Nat → Prop) (v0 v3 : Value) (ps : List ByteArray) (a nt : ByteArray) (cs : List S48) : Prop where
 rd : PRd w0 W g gr l f lo od
 c3 : W.heap[w.heap.size + 1]? = some (.cells #[v0, .string a, .string nt, v3] 25 (0, 0))
 c2 : W.heap[w.heap.size]? = some (.cells #[.slice none 0 0, .string ⟨#[]⟩, .string ⟨#[]⟩, .slice none 0 0] 25 (0, 0))
 r0 : Kd.R Kd.string 35 W w.heap.size (fun _ => True) v0 ps
 r3 : Kd.R k48 48 W w.heap.size ok3 v3 cs
 kp : Kept w W (fun b => b = g ∨ b = gr)
 gw : g < w.heap.size
 rw : gr < w.heap.size
 ww : w0.heap.size ≤ w.heap.size
section
variable {w0 w W W' : World} {g gr : Nat} {l l' : List Int} {f f' : Int} {lo od lo' od' : Bool} {ok3 : Nat → Prop} {v0 v3 : Value} {ps : List ByteArray} {a nt : ByteArray} {cs : List S48}
theorem PSt.call (h : PSt w0 w W g gr l f lo od ok3 v0 v3 ps a nt cs) (hp : PRd w0 W' g gr l' f' lo' od') (hk : Kept W W' (fun b => b = g ∨ b = gr)) : PSt w0 w W' g gr l' f' lo' od' ok3 v0 v3 ps a nt cs := by
 obtain ⟨A, c, k1, _⟩ := h.rd.rdr.ex
 have k2 := h.rd.st
 have hgw := h.gw
 have hrw := h.rw
 refine ⟨hp, blk_kept h.c3 hk (by omega), blk_kept h.c2 hk (by omega), ?_, ?_, h.kp.then_ hk (fun k hk => .inl hk), h.gw, h.rw, h.ww⟩
 · exact Kd.R_mono (Kd.R_kept (R_ne (R_ne h.r0 k1 (ht35 _ (by decide))) k2 (ht35 _ (by decide))) hk (fun k hk => by have h1 := hk.1.2; have h2 := hk.2; omega)) (fun k hk => hk.1.1)
 · exact Kd.R_mono (Kd.R_kept (R_ne (R_ne h.r3 k1 (ht48 _ (by decide))) k2 (ht48 _ (by decide))) hk (fun k hk => by have h1 := hk.1.2; have h2 := hk.2; omega)) (fun k hk => hk.1.1)
theorem PSt.text (h : PSt w0 w W g gr l f lo od ok3 v0 v3 ps a nt cs) (hp : Rdr w0 W' g l' f') (hk : Kept W W' (fun b => b = g)) : PSt w0 w W' g gr l' f' lo od ok3 v0 v3 ps a nt cs :=
 h.call ⟨hp, blk_kept h.rd.st hk (fun he => h.rd.ne he.symm), h.rd.ne, h.rd.ge⟩ (hk.mono (fun _ hb => .inl hb))
theorem PSt.below (h : PSt w0 w W g gr l f lo od ok3 v0 v3 ps a nt cs) (hb : Below W.heap.size W W') : PSt w0 w W' g gr l f lo od ok3 v0 v3 ps a nt cs :=
 ⟨h.rd.kept hb, zM h.c3 hb, zM h.c2 hb, Kd.R_below h.r0 hb, Kd.R_below h.r3 hb, h.kp.below hb, h.gw, h.rw, h.ww⟩
theorem PSt.author (h : PSt w0 w W g gr l f lo od ok3 v0 v3 ps a nt cs) (a' : ByteArray) : PSt w0 w (W.setCell ⟨w.heap.size + 1, 1, none⟩ (.string a')) g gr l f lo od ok3 v0 v3 ps a' nt cs := by
 have hgw := h.gw
 have hrw := h.rw
 have hww := h.ww
 exact ⟨h.rd.far (by show g ≠ w.heap.size + 1; omega) (by show gr ≠ w.heap.size + 1; omega) (by show w0.heap.size ≤ w.heap.size + 1; omega) _, blk_set h.c3 1 _, blk_far h.c2 (by show w.heap.size ≠ w.heap.size + 1; omega) _, Kd.R_set h.r0 h.c3 (ht35 _ (by decide)) _ _, Kd.R_set h.r3 h.c3 (ht48 _ (by decide)) _ _, h.kp.setCell (.inr (by show w.heap.size ≤ w.heap.size + 1; omega)) _, h.gw, h.rw, h.ww⟩
theorem PSt.note (h : PSt w0 w W g gr l f lo od ok3 v0 v3 ps a nt cs) (a' : ByteArray) : PSt w0 w (W.setCell ⟨w.heap.size + 1, 2, none⟩ (.string a')) g gr l f lo od ok3 v0 v3 ps a a' cs := by
 have hgw := h.gw
 have hrw := h.rw
 have hww := h.ww
 exact ⟨h.rd.far (by show g ≠ w.heap.size + 1; omega) (by show gr ≠ w.heap.size + 1; omega) (by show w0.heap.size ≤ w.heap.size + 1; omega) _, blk_set h.c3 2 _, blk_far h.c2 (by show w.heap.size ≠ w.heap.size + 1; omega) _, Kd.R_set h.r0 h.c3 (ht35 _ (by decide)) _ _, Kd.R_set h.r3 h.c3 (ht48 _ (by decide)) _ _, h.kp.setCell (.inr (by show w.heap.size ≤ w.heap.size + 1; omega)) _, h.gw, h.rw, h.ww⟩
theorem PSt.parents (h : PSt w0 w W g gr l f lo od ok3 v0 v3 ps a nt cs) (v0' : Value) (ps' : List ByteArray) (hr : Kd.R Kd.string 35 W' w.heap.size (fun _ => True) v0' ps') (hb : Below w.heap.size W W') (hg : W.grownBy W' v0.ownBlock) :
  PSt w0 w (W'.setCell ⟨w.heap.size + 1, 0, none⟩ v0') g gr l f lo od ok3 v0' v3 ps' a nt cs := by
 have hgw := h.gw
 have hrw := h.rw
 have hww := h.ww
 obtain ⟨A, c, k1, _⟩ := h.rd.rdr.ex
 have n1 : some g ≠ v0.ownBlock := fun he => (((R_ne h.r0 k1 (ht35 _ (by decide))).1 g he.symm).2 rfl)
 have n2 : some gr ≠ v0.ownBlock := fun he => (((R_ne h.r0 h.rd.st (ht35 _ (by decide))).1 gr he.symm).2 rfl)
 have n3 : some (w.heap.size + 1) ≠ v0.ownBlock := fun he => (((R_ne h.r0 h.c3 (ht35 _ (by decide))).1 _ he.symm).2 rfl)
 have n4 : some w.heap.size ≠ v0.ownBlock := fun he => (((R_ne h.r0 h.c2 (ht35 _ (by decide))).1 _ he.symm).2 rfl)
 have e3 := blk_grown h.c3 hg n3
 have r3 := Kd.R_grown (Kd.R_apartR h.r3 h.r0 (ht48 _ (by decide))) hg (fun k hk => hk.2)
 have hk : Kept w W' (fun b => b = g ∨ b = gr) := Kept.of_grown hg h.kp (fun k hk => .inr ((Kd.R_bound h.r0).1 k hk).2.1)
 have hrd := h.rd.grown hg n1 n2 (h.rd.rdr.bel.trans (hb.mono hww))
 exact ⟨hrd.far (by show g ≠ w.heap.size + 1; omega) (by show gr ≠ w.heap.size + 1; omega) (by show w0.heap.size ≤ w.heap.size + 1; omega) _, blk_set e3 0 _, blk_far (blk_grown h.c2 hg n4) (by show w.heap.size ≠ w.heap.size + 1; omega) _, Kd.R_set hr e3 (ht35 _ (by decide)) _ _, Kd.R_mono (Kd.R_set r3 e3 (ht48 _ (by decide)) _ _) (fun k hk => hk.1), hk.setCell (.inr (by show w.heap.size ≤ w.heap.size + 1; omega)) _, h.gw, h.rw, h.ww⟩
theorem PSt.changes (h : PSt w0 w W g gr l f lo od ok3 v0 v3 ps a nt cs) (v3' : Value) (cs' : List S48) (hr : Kd.R k48 48 W' w.heap.size ok3 v3' cs') (hb : Below w.heap.size W W') (hg : W.grownBy W' v3.ownBlock) :
  PSt w0 w (W'.setCell ⟨w.heap.size + 1, 3, none⟩ v3') g gr l f lo od ok3 v0 v3' ps a nt cs' := by
 have hgw := h.gw
 have hrw := h.rw
 have hww := h.ww
 obtain ⟨A, c, k1, _⟩ := h.rd.rdr.ex
 have n1 : some g ≠ v3.ownBlock := fun he => (((R_ne h.r3 k1 (ht48 _ (by decide))).1 g he.symm).2 rfl)
 have n2 : some gr ≠ v3.ownBlock := fun he => (((R_ne h.r3 h.rd.st (ht48 _ (by decide))).1 gr he.symm).2 rfl)
 have n3 : some (w.heap.size + 1) ≠ v3.ownBlock := fun he => (((R_ne h.r3 h.c3 (ht48 _ (by decide))).1 _ he.symm).2 rfl)
 have n4 : some w.heap.size ≠ v3.ownBlock := fun he => (((R_ne h.r3 h.c2 (ht48 _ (by decide))).1 _ he.symm).2 rfl)
 have e3 := blk_grown h.c3 hg n3
 have r0 := Kd.R_grown (Kd.R_apartR h.r0 h.r3 (ht35 _ (by decide))) hg (fun k hk => hk.2)
 have hk : Kept w W' (fun b => b = g ∨ b = gr) := Kept.of_grown hg h.kp (fun k hk => .inr ((Kd.R_bound h.r3).1 k hk).2.1)
 have hrd := h.rd.grown hg n1 n2 (h.rd.rdr.bel.trans (hb.mono hww))
 exact ⟨hrd.far (by show g ≠ w.heap.size + 1; omega) (by show gr ≠ w.heap.size + 1; omega) (by show w0.heap.size ≤ w.heap.size + 1; omega) _, blk_set e3 3 _, blk_far (blk_grown h.c2 hg n4) (by show w.heap.size ≠ w.heap.size + 1; omega) _, Kd.R_mono (Kd.R_set r0 e3 (ht35 _ (by decide)) _ _) (fun k hk => hk.1), Kd.R_set hr e3 (ht48 _ (by decide)) _ _, hk.setCell (.inr (by show w.heap.size ≤ w.heap.size + 1; omega)) _, h.gw, h.rw, h.ww⟩
theorem PSt.far (h : PSt w0 w W g gr l f lo od ok3 v0 v3 ps a nt cs) {p : Addr} (hp : w.heap.size + 1 < p.block) (h0 : ∀ k, v0.ownBlock = some k → k ≠ p.block) (h3 : ∀ k, ok3 k → k ≠ p.block) (h35 : ∃ cells t, W.heap[p.block]? = some (.cells cells t (0, 0)) ∧ t ≠ 35) (u : Value) : PSt w0 w (W.setCell p u) g gr l f lo od ok3 v0 v3 ps a nt cs := by
 have hgw := h.gw
 have hrw := h.rw
 have hww := h.ww
 obtain ⟨cells, t, hc, ht⟩ := h35
 exact ⟨h.rd.far (by omega) (by omega) (by omega) _, blk_far h.c3 (by omega) _, blk_far h.c2 (by omega) _, Kd.R_mono (Kd.R_far (R_ne h.r0 hc (ht35 _ ht)) (fun k hk => hk.2) _) (fun k hk => hk.1), Kd.R_far h.r3 h3 _, h.kp.setCell (.inr (by omega)) _, h.gw, h.rw, h.ww⟩
theorem PSt.odd (h : PSt w0 w W g gr l f lo od ok3 v0 v3 ps a nt cs) (od' : Bool) : PSt w0 w (W.setCell ⟨gr, 2, none⟩ (.bool od')) g gr l f lo od' ok3 v0 v3 ps a nt cs := by
 have hgw := h.gw
 have hrw := h.rw
 exact ⟨⟨h.rd.rdr.far h.rd.ne h.rd.ge _, blk_set h.rd.st 2 _, h.rd.ne, h.rd.ge⟩, blk_far h.c3 (by show w.heap.size + 1 ≠ gr; omega) _, blk_far h.c2 (by show w.heap.size ≠ gr; omega) _, Kd.R_set h.r0 h.rd.st (ht35 _ (by decide)) _ _, Kd.R_set h.r3 h.rd.st (ht48 _ (by decide)) _ _, h.kp.setCell (.inl (.inr rfl)) _, h.gw, h.rw, h.ww⟩
theorem PSt.ok (h : PSt w0 w W g gr l f lo od ok3 v0 v3 ps a nt cs) {ok3' : Nat → Prop} (hr : Kd.R k48 48 W w.heap.size ok3' v3 cs) : PSt w0 w W g gr l f lo od ok3' v0 v3 ps a nt cs :=
 ⟨h.rd, h.c3, h.c2, h.r0, hr, h.kp, h.gw, h.rw, h.ww⟩
end
def parentsR (lo : Bool) : Nat → List Int → Int → List ByteArray → List ByteArray × List Int × Int
 | 0, l, f, ps => (ps, l, f)
 | n + 1, l, f, ps => if goesR f lo = true then parentsR lo n (textR 32 l f).2.1 (textR 32 l f).2.2 (ps ++ [strOfNums (textR 32 l f).1]) else (ps, l, f)
def changesR (lo : Bool) : Nat → List Int → Int → Bool → List S48 → List S48 × List Int × Int × Bool
 | 0, l, f, od, cs => (cs, l, f, od)
 | n + 1, l, f, od, cs =>
  if goesR f lo = true then
   let t1 := textR 200 l f
   let t2 := numR t1.2.1 t1.2.2
   let t3 := textR 65536 t2.2.1 t2.2.2
   changesR lo n t3.2.1 t3.2.2 (od || decide (t2.1 > 1)) (cs ++ [⟨strOfNums t1.1, t2.1 == 1, strOfNums t3.1⟩])
  else (cs, l, f, od)
end Go.Proofs.YtembjjombhfglaaDoor.G
