/- PatchLimits is true for every input: a patch has as many parents, and as long an author, and note, as it may have, and no more. Conditions: the row's listed tables, tied to the program's text by the card. -/
import Derived.Test.YtembjjombhfglaaDoorGZ
import Derived.Test.YtembjjombhfglaaDoorGYL
namespace Go.Proofs.YtembjjombhfglaaDoor.G
open Go.RowKit Go.Proofs.YtembjjombhfglaaDoorW.PrintWords
set_option linter.unusedVariables false
set_option linter.unusedSimpArgs false
theorem awake_true : grapevinelaw12_awake.f 200 = some true := by decide +kernel
theorem decode_limits (ps : List ByteArray) (a nt : ByteArray) (hr : Rising ps) (h1 : ps.length ≤ 16) (h2 : a.size ≤ 100) (h3 : nt.size ≤ 1000) (h32 : ∀ p ∈ ps, p.size ≤ 32) (hlen : ¬ 131072 < (formB ps a nt []).length) :
  patch_Decode.f (formB ps a nt []) = some (ps, a, nt, [], 0) := by
 unfold patch_Decode.f
 rw [if_neg hlen, patchR_form ps a nt [] h1 h32 h2 h3 (by simp) (fun c hc => by cases hc)]
 simp only
 rw [if_neg (by simp), if_neg (by simp [endR]), if_neg (by simp), right_limits ps a nt hr h1 h2 h3 decodeK (by decide), Option.bind_some, if_pos rfl]
def pid (i : Nat) : ByteArray := strOfNums ((List.replicate 32 (0 : Int)).set 31 ((i : Int) % 256))
theorem pid_size (i : Nat) : (pid i).size = 32 := by unfold pid; rw [strOfNums_size]; simp
theorem pid_less : ∀ i < 21, 0 < i → Op.bytesLess (pid (i - 1)).data.toList (pid i).data.toList = true := by decide +kernel
def pids (n : Nat) : List ByteArray := (List.range n).map pid
theorem pids_get (n i : Nat) (h : i < n) : (pids n).getD i ByteArray.empty = pid i := by simp [pids, List.getD, h]
theorem pids_length (n : Nat) : (pids n).length = n := by simp [pids]
theorem pids_rising (n : Nat) (hn : n ≤ 21) : Rising (pids n) := fun i hi => by
 rw [pids_length] at hi
 refine ⟨by rw [pids_get n i hi]; exact pid_size i, fun h0 => ?_⟩
 rw [pids_get n i hi, pids_get n (i - 1) (by omega), ByteArray.toList_eq, ByteArray.toList_eq]
 exact pid_less i (by omega) h0
theorem pids_sizes (n : Nat) : ∀ p ∈ pids n, p.size = 32 := fun p hp => by
 obtain ⟨i, _, rfl⟩ := List.mem_map.1 hp
 exact pid_size i
theorem limits_l0 (n : Nat) (hn : n ≤ 20) (a nt : ByteArray) : ∀ (m i k : Nat), i + m = n → grapevinelaw12_PatchLimits.l0 (k + m + 1) true (n : Int) (i : Int) (pids i) a nt = grapevinelaw12_PatchLimits.j1 k true (decide (n ≤ 16 ∧ a.size ≤ 100 ∧ nt.size ≤ 1000)) (pids n) a nt
 | 0, i, k, hi => by
  obtain rfl : i = n := by omega
  rw [Nat.add_zero]
  unfold grapevinelaw12_PatchLimits.l0
  rw [if_neg (by omega)]
  by_cases h1 : i ≤ 16
  ·
   by_cases h2 : a.size ≤ 100
   ·
    rw [if_pos (by omega), if_pos (by omega)]
    congr 1
    by_cases h3 : nt.size ≤ 1000
    · simp [h1, h2, h3]; omega
    · simp [h1, h2, h3]; omega
   · rw [if_pos (by omega), if_neg (by omega), show decide (i ≤ 16 ∧ a.size ≤ 100 ∧ nt.size ≤ 1000) = false by simp; omega]
  · rw [if_neg (by omega), show decide (i ≤ 16 ∧ a.size ≤ 100 ∧ nt.size ≤ 1000) = false by simp; omega]
 | m + 1, i, k, hi => by
  rw [show k + (m + 1) + 1 = (k + m + 1) + 1 by omega]
  unfold grapevinelaw12_PatchLimits.l0
  rw [if_pos (by omega), if_pos (by omega), Option.bind_some, if_pos (by simp), if_pos (by rw [pids_length]; omega), wrap64_succ i (by omega)]
  have e : pids i ++ [strOfNums ((List.replicate 32 (0 : Int)).set (31 : Int).toNat ((i : Int) % 256))] = pids (i + 1) := by
   unfold pids
   rw [List.range_succ, List.map_append]
   rfl
  rw [e]
  exact limits_l0 n hn a nt m (i + 1) k (by omega)
theorem limits_j1 (n : Nat) (hn : n ≤ 20) (a nt : ByteArray) (ha : a.size < 10000) (hnt : nt.size < 10000) (k : Nat) (hk : 120 ≤ k) :
  grapevinelaw12_PatchLimits.j1 (k + 1) true (decide (n ≤ 16 ∧ a.size ≤ 100 ∧ nt.size ≤ 1000)) (pids n) a nt = some true := by
 have h32 := pids_sizes n
 have hl := pids_length n
 have hlen : ¬ 131072 < (formB (pids n) a nt []).length := by
  have hids : ∀ (l : List ByteArray), (∀ p ∈ l, p.size = 32) → (idsB l).length ≤ 36 * l.length := by
   intro l hl
   induction l with
   | nil => simp [idsB]
   | cons p l ih =>
    have h5 := ih (fun q hq => hl q (by simp [hq]))
    have h6 := hl p (by simp)
    have h7 := numB_len p.size
    have h8 : (bytesOf p).length = p.size := bytesOf_length _
    simp only [idsB, List.flatMap_cons, List.length_append, List.length_cons] at h5 ⊢
    omega
  have h4 := hids (pids n) h32
  have hla : (bytesOf a).length = a.size := bytesOf_length _
  have hln : (bytesOf nt).length = nt.size := bytesOf_length _
  have b1 := numB_len (pids n).length
  have b2 := numB_len a.size
  have b3 := numB_len nt.size
  have b4 := numB_len 0
  simp only [formB, chB, List.length_append, List.flatMap_nil, List.length_nil]
  omega
 rw [grapevinelaw12_PatchLimits.j1, rform_f (pids n) a nt (fun p hp => by have := h32 p hp; omega) (by omega) (by omega) (by omega) k (by omega), Option.bind_some]
 by_cases h : n ≤ 16 ∧ a.size ≤ 100 ∧ nt.size ≤ 1000
 ·
  rw [decode_limits (pids n) a nt (pids_rising n (by omega)) (by omega) h.2.1 h.2.2 (fun p hp => by have := h32 p hp; omega) hlen, Option.bind_some]
  rw [if_pos (by simpa using h), if_pos rfl, right_limits (pids n) a nt (pids_rising n (by omega)) (by omega) h.2.1 h.2.2 k (by omega), Option.bind_some]
  rw [if_pos (by simpa using h), if_pos rfl, same_same (pids n) a nt [] (by omega) (by simp) k (by simp; omega)]
  rfl
 ·
  rw [decode_beyond (pids n) a nt (by omega) (fun p hp => by have := h32 p hp; omega) (by omega) (by omega) (by rw [hl]; exact h) hlen, Option.bind_some]
  have hd : decide (n ≤ 16 ∧ a.size ≤ 100 ∧ nt.size ≤ 1000) = false := decide_eq_false h
  rw [hd, if_neg (by simp), if_pos rfl, right_beyond (pids n) a nt (by rw [hl]; exact h) k (by omega), Option.bind_some]
  rw [if_pos (by rfl), if_pos rfl]
theorem u8_range (a : Int) (h : (Lit.int .u8 a).wf = true) : 0 ≤ a ∧ a < 256 := by
 have h1 : IntKind.u8.min ≤ a ∧ a ≤ IntKind.u8.max := by simpa [Lit.wf] using h
 rw [show IntKind.u8.min = 0 by decide, show IntKind.u8.max = 255 by decide] at h1
 omega
theorem limits_pure (a0 a1 a2 : Int) (h0 : (Lit.int .u8 a0).wf = true) (h1 : (Lit.int .u8 a1).wf = true) (h2 : (Lit.int .u8 a2).wf = true) : grapevinelaw12_PatchLimits.f 200 a0 a1 a2 = some true := by
 have r0 := u8_range a0 h0
 have r1 := u8_range a1 h1
 have r2 := u8_range a2 h2
 obtain ⟨n, hn⟩ : ∃ n : Nat, wrap64 (Int.tmod a0 21) = (n : Int) ∧ n ≤ 20 := ⟨(a0 % 21).toNat, by rw [Int.tmod_eq_emod_of_nonneg (by omega)]; unfold wrap64; omega, by omega⟩
 obtain ⟨x, hx⟩ : ∃ n : Nat, wrap64 (95 + wrap64 (Int.tmod a1 11)) = (n : Int) ∧ n ≤ 105 := ⟨(95 + a1 % 11).toNat, by rw [Int.tmod_eq_emod_of_nonneg (by omega)]; unfold wrap64; omega, by omega⟩
 obtain ⟨y, hy⟩ : ∃ n : Nat, wrap64 (995 + wrap64 (Int.tmod a2 11)) = (n : Int) ∧ n ≤ 1005 := ⟨(995 + a2 % 11).toNat, by rw [Int.tmod_eq_emod_of_nonneg (by omega)]; unfold wrap64; omega, by omega⟩
 unfold grapevinelaw12_PatchLimits.f
 rw [awake_true, Option.bind_some, hn.1, hx.1, hy.1, if_pos (by omega), if_pos (by omega), if_pos (by omega), if_pos (by omega)]
 have e := limits_l0 n hn.2 (strOfNums (List.replicate ((x : Int)).toNat 0)) (strOfNums (List.replicate ((y : Int)).toNat 0)) n 0 (199 - n) (by omega)
 rw [show 199 - n + n + 1 = 200 by omega] at e
 rw [show ([] : List ByteArray) = pids 0 from rfl, show (0 : Int) = ((0 : Nat) : Int) from rfl] at *
 rw [e]
 obtain ⟨k, hk⟩ : ∃ k, 199 - n = k + 1 := ⟨198 - n, by omega⟩
 rw [hk]
 exact limits_j1 n hn.2 _ _ (by rw [strOfNums_size]; simp; omega) (by rw [strOfNums_size]; simp; omega) k (by omega)
theorem limits_card : Rows.PatchLimitsCardSaid := patchLimits.card_holds fun a0 a1 a2 w h0 h1 h2 hG => grapevinelaw12_PatchLimits.calls 200 a0 a1 a2 true w hG (limits_pure a0 a1 a2 h0 h1 h2) awake_true rfl
end Go.Proofs.YtembjjombhfglaaDoor.G
