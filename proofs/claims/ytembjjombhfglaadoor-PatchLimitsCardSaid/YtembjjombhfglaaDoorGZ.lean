import Derived.Test.YtembjjombhfglaaDoorGP6
import Derived.Laws.BitsLemmas
import Derived.Test.YtembjjombhfglaaDoorGE5
import Derived.Test.YtembjjombhfglaaDoorG17
section
namespace Go.Proofs.YtembjjombhfglaaDoor.G
open Go.RowKit Go.Proofs.YtembjjombhfglaaDoorW.PrintWords
set_option linter.unusedVariables false
set_option linter.unusedSimpArgs false
def numE : Nat → Nat → List Int
 | 0, n => [(n : Int)]
 | k + 1, n => if 128 ≤ n then ((n % 128 + 128 : Nat) : Int) :: numE k (n / 128) else [(n : Int)]
def numB (n : Nat) : List Int := numE 3 n
theorem wraps_u64 (n : Int) (h₀ : 0 ≤ n) (h₁ : n < 2 ^ 64) : IntKind.u64.wrap n = n := by rw [IntKind.wrap_u64]; omega
theorem pow7 (i : Nat) (hi : i ≤ 7) : 2 ^ (7 * i) * 128 ≤ 2 ^ 56 := by
 have : 2 ^ (7 * i) * 2 ^ 7 ≤ 2 ^ 56 := by rw [← Nat.pow_add]; exact Nat.pow_le_pow_right (by decide) (by omega)
 exact this
theorem tkN_eq (n x i : Nat) (hn : n < 2 ^ (7 * i)) (hx : x < 256) (hi : i ≤ 7) : tkN (n : Int) (x : Int) i = ((n + (x % 128) * 2 ^ (7 * i) : Nat) : Int) := by
 unfold tkN
 have h1 : Go.bits .and .u8 (x : Int) 127 = ((x % 128 : Nat) : Int) := by
  have := bits_mask .u8 8 (by decide) wraps_u8 7 (by decide) (x : Int) (by omega) (by omega)
  rw [show ((2 : Int) ^ 7 - 1) = 127 by decide, show ((2 : Int) ^ 7) = 128 by decide] at this
  rw [this]; omega
 have hp := pow7 i hi
 have hpp : 0 < 2 ^ (7 * i) := Nat.two_pow_pos _
 have hlt : (x % 128) * 2 ^ (7 * i) < 2 ^ 56 := by
  have : (x % 128) * 2 ^ (7 * i) < 128 * 2 ^ (7 * i) := Nat.mul_lt_mul_of_pos_right (by omega) hpp
  omega
 have hn2 : n < 2 ^ 56 := by omega
 rw [h1, wraps_u64 ((x % 128 : Nat) : Int) (by omega) (by omega)]
 rw [show (((x % 128 : Nat) : Int) * 2 ^ (7 * i)) = (((x % 128) * 2 ^ (7 * i) : Nat) : Int) by simp]
 rw [wraps_u64 _ (by omega) (by omega)]
 rw [(bits_nat .u64 63 (by decide) (fun m h0 h1 => wraps_u64 m h0 (by omega)) n ((x % 128) * 2 ^ (7 * i)) (by omega) (by omega)).2]
 rw [Nat.or_comm, Nat.mul_comm, ← Nat.two_pow_add_eq_or_of_lt hn (x % 128), Nat.mul_comm, Nat.add_comm]
theorem rd_drop (l : List Int) (i : Nat) (x : Int) (t : List Int) (h : l.drop i = x :: t) : rd l (i : Int) = x := by
 have : (l.drop i).head? = some x := by rw [h]; rfl
 rw [List.head?_drop] at this
 simp [rd, this]
theorem numE_length (j m : Nat) : 1 ≤ (numE j m).length ∧ (numE j m).length ≤ j + 1 := by
 induction j generalizing m with
 | zero => simp [numE]
 | succ j ih => unfold numE; split <;> simp; have := (ih (m / 128)).2; omega
theorem takeL_num (l rest : List Int) : ∀ (j m i acc k : Nat), l.drop i = numE j m ++ rest → acc < 2 ^ (7 * i) → i + j ≤ 7 → (numE j m).length ≤ k → m < 128 * 128 ^ j → (0 < i → 0 < m) →
  takeL l (k) i (acc : Int) = (((acc + m * 2 ^ (7 * i) : Nat) : Int), i + (numE j m).length, 0)
 | 0, m, i, acc, 0, hd, ha, hj, hk, hm, hz => by simp [numE] at hk
 | 0, m, i, acc, k + 1, hd, ha, hj, hk, hm, hz => by
  have hx := rd_drop l i _ _ (show l.drop i = (m : Int) :: rest from hd)
  unfold takeL
  rw [hx, if_neg (by omega), if_neg (by omega)]
  rw [tkN_eq acc m i ha (by omega) (by omega), Nat.mod_eq_of_lt (by omega)]
  rfl
 | j + 1, m, i, acc, 0, hd, ha, hj, hk, hm, hz => by have := (numE_length (j + 1) m).1; omega
 | j + 1, m, i, acc, k + 1, hd, ha, hj, hk, hm, hz => by
  unfold numE at hd hk ⊢
  by_cases h : 128 ≤ m
  ·
   rw [if_pos h] at hd hk ⊢
   rw [List.length_cons] at hk
   have hx := rd_drop l i _ _ (show l.drop i = ((m % 128 + 128 : Nat) : Int) :: (numE j (m / 128) ++ rest) from hd)
   have hd2 : l.drop (i + 1) = numE j (m / 128) ++ rest := by
    rw [← List.drop_drop, hd]; rfl
   unfold takeL
   rw [hx, if_pos (by omega), tkN_eq acc (m % 128 + 128) i ha (by omega) (by omega)]
   have hp : 2 ^ (7 * (i + 1)) = 2 ^ (7 * i) * 128 := by rw [show 7 * (i + 1) = 7 * i + 7 by omega, Nat.pow_add]
   have hpp : 0 < 2 ^ (7 * i) := Nat.two_pow_pos _
   have hmm : (m % 128 + 128) % 128 = m % 128 := by omega
   have ha2 : acc + (m % 128 + 128) % 128 * 2 ^ (7 * i) < 2 ^ (7 * (i + 1)) := by
    rw [hp, hmm]
    have : m % 128 * 2 ^ (7 * i) ≤ 127 * 2 ^ (7 * i) := Nat.mul_le_mul_right _ (by omega)
    omega
   have h2 := takeL_num l rest j (m / 128) (i + 1) _ k hd2 ha2 (by omega) (by omega) (by rw [Nat.pow_succ] at hm; omega) (fun _ => by omega)
   ·
    rw [h2, hp, hmm]
    simp only [List.length_cons, Prod.mk.injEq, and_true]
    refine ⟨?_, by omega⟩
    congr 1
    have e : m / 128 * (2 ^ (7 * i) * 128) = (m / 128 * 128) * 2 ^ (7 * i) := by rw [Nat.mul_assoc, Nat.mul_comm 128]
    rw [e, Nat.add_assoc, ← Nat.add_mul]
    have : m % 128 + m / 128 * 128 = m := by omega
    rw [this]
  ·
   rw [if_neg h] at hd ⊢
   have hx := rd_drop l i _ _ (show l.drop i = (m : Int) :: rest from hd)
   unfold takeL
   rw [hx, if_neg (by omega), if_neg (by omega)]
   rw [tkN_eq acc m i ha (by omega) (by omega), Nat.mod_eq_of_lt (by omega)]
   rfl
theorem takeF_num (n : Nat) (hn : n < 128 * 128 ^ 3) (rest : List Int) : takeF (numB n ++ rest) = ((n : Int), (numB n).length, 0) := by
 unfold takeF
 have hl := numE_length 3 n
 have h := takeL_num (numB n ++ rest) rest 3 n 0 0 (min (numB n ++ rest).length 10) rfl (by decide) (by decide) (by rw [List.length_append]; unfold numB; omega) hn (fun h => by omega)
 rw [show ((0 : Nat) : Int) = 0 from rfl] at h
 rw [h]
 simp [numB]
theorem numR_num (n : Nat) (hn : n < 128 * 128 ^ 3) (rest : List Int) : numR (numB n ++ rest) 0 = ((n : Int), rest, 0) := by
 unfold numR
 rw [takeF_num n hn rest]
 simp
theorem textR_text (m : Nat) (t rest : List Int) (ht : t.length < 128 * 128 ^ 3) (hm : t.length ≤ m) : textR (m : Int) (numB t.length ++ (t ++ rest)) 0 = (t, rest, 0) := by
 unfold textR
 rw [takeF_num t.length ht (t ++ rest)]
 simp only [if_true]
 rw [if_neg (by omega), if_neg (by rw [List.length_append, List.length_append]; omega)]
 rw [Int.toNat_natCast, List.drop_left', ← List.drop_drop, List.drop_left']
 · simp
 · rfl
 · rfl
theorem textR_long (m : Nat) (t rest : List Int) (ht : t.length < 128 * 128 ^ 3) (hm : m < t.length) : textR (m : Int) (numB t.length ++ (t ++ rest)) 0 = ([], numB t.length ++ (t ++ rest), 4) := by
 unfold textR
 rw [takeF_num t.length ht (t ++ rest)]
 simp only [if_true]
 rw [if_pos (by omega)]
end Go.Proofs.YtembjjombhfglaaDoor.G
end
section
namespace Go.Proofs.YtembjjombhfglaaDoor.G
open Go.RowKit Go.Proofs.YtembjjombhfglaaDoorW.PrintWords
set_option linter.unusedVariables false
set_option linter.unusedSimpArgs false
theorem nums_bytes (s : ByteArray) : strOfNums (bytesOf s) = s := by
 unfold bytesOf strOfNums
 cases s with
 | mk d =>
  congr 1
  rw [List.map_map]
  have : (List.map ((fun n : Int => UInt8.ofNat n.toNat) ∘ fun b : UInt8 => (b.toNat : Int)) d.toList) = d.toList := by
   conv => rhs; rw [← List.map_id d.toList]
   exact List.map_congr_left (fun x _ => by simp)
  rw [this]
theorem conv_b_eq (s : ByteArray) (h : s.size ≤ 9223372036854775807) : conv_b s = some (bytesOf s) := by
 unfold conv_b
 rw [if_pos h]
theorem or128 : ∀ m < 256, Go.bits .or .u8 ((m : Nat) : Int) 128 = ((m % 128 + 128 : Nat) : Int) := by decide +kernel
theorem wire_num_l0 : ∀ (j n k : Nat) (acc : List Int), n < 128 * 128 ^ j → j + 1 ≤ k → acc.length + j < 140737488355328 → wire_Num.l0 k (n : Int) acc = some (acc ++ numE j n)
 | 0, n, k + 1, acc, hn, hk, ha => by
  unfold wire_Num.l0 numE
  rw [if_neg (by omega), if_pos (by omega), show ((n : Int) % 256) = (n : Int) by omega]
 | j + 1, n, k + 1, acc, hn, hk, ha => by
  unfold wire_Num.l0 numE
  by_cases h : 128 ≤ n
  ·
   rw [if_pos (by omega), if_pos (by omega), if_pos h]
   have e1 : ((n : Int) % 256) = ((n % 256 : Nat) : Int) := by omega
   rw [e1, or128 _ (by omega), show ((n : Int) / 128) = ((n / 128 : Nat) : Int) by omega, show n % 256 % 128 = n % 128 by omega]
   rw [wire_num_l0 j (n / 128) k _ (by rw [Nat.pow_succ] at hn; omega) (by omega) (by simp; omega)]
   simp
  · rw [if_neg (by omega), if_pos (by omega), if_neg h, show ((n : Int) % 256) = (n : Int) by omega]
theorem wire_num (n k : Nat) (acc : List Int) (hn : n < 128 * 128 ^ 3) (hk : 4 ≤ k) (ha : acc.length + 3 < 140737488355328) : wire_Num.f k acc (n : Int) = some (acc ++ numB n) := by
 unfold wire_Num.f clone_bytes.f
 rw [if_pos (by omega), Option.bind_some]
 exact wire_num_l0 3 n k acc hn hk ha
theorem wire_text (k : Nat) (acc t : List Int) (ht : t.length < 128 * 128 ^ 3) (hk : 4 ≤ k) (ha : acc.length + t.length + 4 < 140737488355328) : wire_Text.f k acc t = some (acc ++ (numB t.length ++ t)) := by
 unfold wire_Text.f
 rw [wraps_u64 _ (by omega) (by omega), wire_num t.length k acc ht hk (by omega), Option.bind_some]
 have hl := (numE_length 3 t.length).2
 rw [if_pos (by rw [List.length_append]; unfold numB; omega)]
 simp
def idsB (ps : List ByteArray) : List Int := ps.flatMap fun p => numB p.size ++ bytesOf p
def chB (cs : List S48) : List Int := cs.flatMap fun c => numB c.f0.size ++ (bytesOf c.f0 ++ (numB (if c.f1 = true then 1 else 0) ++ (numB c.f2.size ++ bytesOf c.f2)))
def formB (ps : List ByteArray) (a nt : ByteArray) (cs : List S48) : List Int := numB ps.length ++ (idsB ps ++ (numB a.size ++ (bytesOf a ++ (numB nt.size ++ (bytesOf nt ++ (numB cs.length ++ chB cs))))))
theorem parentsR_ids (rest : List Int) : ∀ (ps acc : List ByteArray), (∀ p ∈ ps, p.size ≤ 32) → parentsR false ps.length (idsB ps ++ rest) 0 acc = (acc ++ ps, rest, 0)
 | [], acc, h => by simp [parentsR, idsB]
 | p :: ps, acc, h => by
  have hp := h p (by simp)
  have hl : (bytesOf p).length = p.size := bytesOf_length p
  have e : idsB (p :: ps) ++ rest = numB (bytesOf p).length ++ (bytesOf p ++ (idsB ps ++ rest)) := by rw [hl]; simp [idsB]
  rw [e, List.length_cons]
  unfold parentsR
  have ht := textR_text 32 (bytesOf p) (idsB ps ++ rest) (by omega) (by omega)
  rw [show ((32 : Nat) : Int) = 32 from rfl] at ht
  rw [if_pos (by rfl), ht]
  simp only
  rw [parentsR_ids rest ps _ (fun q hq => h q (by simp [hq])), nums_bytes]
  simp
theorem changesR_ch (rest : List Int) : ∀ (cs acc : List S48), (∀ c ∈ cs, c.f0.size ≤ 200 ∧ c.f2.size ≤ 65536) → changesR false cs.length (chB cs ++ rest) 0 false acc = (acc ++ cs, rest, 0, false)
 | [], acc, h => by simp [changesR, chB]
 | c :: cs, acc, h => by
  have hc := h c (by simp)
  have hl0 : (bytesOf c.f0).length = c.f0.size := bytesOf_length _
  have hl2 : (bytesOf c.f2).length = c.f2.size := bytesOf_length _
  have e : chB (c :: cs) ++ rest = numB (bytesOf c.f0).length ++ (bytesOf c.f0 ++ (numB (if c.f1 = true then 1 else 0) ++ (numB (bytesOf c.f2).length ++ (bytesOf c.f2 ++ (chB cs ++ rest))))) := by rw [hl0, hl2]; simp [chB]
  rw [e, List.length_cons]
  unfold changesR
  have ht := textR_text 200 (bytesOf c.f0) (numB (if c.f1 = true then 1 else 0) ++ (numB (bytesOf c.f2).length ++ (bytesOf c.f2 ++ (chB cs ++ rest)))) (by omega) (by omega)
  rw [show ((200 : Nat) : Int) = 200 from rfl] at ht
  have ht2 := textR_text 65536 (bytesOf c.f2) (chB cs ++ rest) (by omega) (by omega)
  rw [show ((65536 : Nat) : Int) = 65536 from rfl] at ht2
  have hn := numR_num (if c.f1 = true then 1 else 0) (by split <;> omega) (numB (bytesOf c.f2).length ++ (bytesOf c.f2 ++ (chB cs ++ rest)))
  rw [if_pos (by rfl)]
  simp only [ht, hn, ht2]
  rw [show (false || decide (((if c.f1 = true then 1 else 0 : Nat) : Int) > 1)) = false by split <;> decide]
  rw [changesR_ch rest cs _ (fun q hq => h q (by simp [hq])), nums_bytes, nums_bytes]
  have hb : (((if c.f1 = true then 1 else 0 : Nat) : Int) == 1) = c.f1 := by cases c.f1 <;> decide
  rw [hb]
  simp
theorem patchR_form (ps : List ByteArray) (a nt : ByteArray) (cs : List S48) (h1 : ps.length ≤ 16) (h2 : ∀ p ∈ ps, p.size ≤ 32) (h3 : a.size ≤ 100) (h4 : nt.size ≤ 1000) (h5 : cs.length ≤ 100) (h6 : ∀ c ∈ cs, c.f0.size ≤ 200 ∧ c.f2.size ≤ 65536) :
  patchR (formB ps a nt cs) = (ps, a, nt, cs, [], 0, false, false) := by
 have hla : (bytesOf a).length = a.size := bytesOf_length _
 have hln : (bytesOf nt).length = nt.size := bytesOf_length _
 unfold patchR formB
 rw [numR_num ps.length (by omega)]
 simp only
 rw [if_neg (by omega), show decide ((16 : Int) < (ps.length : Int)) = false by simp; omega, Int.toNat_natCast, parentsR_ids _ ps [] h2]
 unfold patchR2
 simp only
 rw [if_pos (by rfl)]
 have ht := textR_text 100 (bytesOf a) (numB nt.size ++ (bytesOf nt ++ (numB cs.length ++ chB cs))) (by omega) (by omega)
 rw [show ((100 : Nat) : Int) = 100 from rfl, hla] at ht
 have ht2 := textR_text 1000 (bytesOf nt) (numB cs.length ++ chB cs) (by omega) (by omega)
 rw [show ((1000 : Nat) : Int) = 1000 from rfl, hln] at ht2
 have hn := numR_num cs.length (by omega) (chB cs)
 have hc := changesR_ch [] cs [] h6
 rw [List.append_nil] at hc
 simp only [ht, ht2, hn]
 rw [if_neg (by omega), if_neg (by omega), Int.toNat_natCast, hc, nums_bytes, nums_bytes]
 simp
end Go.Proofs.YtembjjombhfglaaDoor.G
end
section
namespace Go.Proofs.YtembjjombhfglaaDoor.G
open Go.RowKit Go.Proofs.YtembjjombhfglaaDoorW.PrintWords
set_option linter.unusedVariables false
set_option linter.unusedSimpArgs false
theorem wrap64_succ (n : Nat) (h : n < 9223372036854775000) : wrap64 ((n : Int) + 1) = ((n + 1 : Nat) : Int) := by unfold wrap64; omega
theorem drop_get {α : Type} (d : α) (l : List α) (i : Nat) (h : i < l.length) : l.drop i = l.getD i d :: l.drop (i + 1) := by
 rw [List.drop_eq_getElem_cons h]
 simp [List.getD, h]
structure Fits (ps : List ByteArray) (a nt : ByteArray) (cs : List S48) : Prop where
 np : ps.length ≤ 1000
 nc : cs.length ≤ 1000
 pa : ∀ p ∈ ps, p.size ≤ 1000000
 sa : a.size ≤ 1000000
 sn : nt.size ≤ 1000000
 ch : ∀ c ∈ cs, c.f0.size ≤ 1000000 ∧ c.f2.size ≤ 1000000
theorem numB_len (n : Nat) : 1 ≤ (numB n).length ∧ (numB n).length ≤ 4 := numE_length 3 n
theorem form_l1 (cs : List S48) (hc : ∀ c ∈ cs, c.f0.size ≤ 1000000 ∧ c.f2.size ≤ 1000000) (hn : cs.length ≤ 1000) : ∀ (m i k : Nat) (acc : List Int), i + m = cs.length → 2 * m + 6 ≤ k → acc.length + 3000000 * m < 100000000000000 →
  patch_form.l1 k acc cs (cs.length : Int) (i : Int) = some (acc ++ chB (cs.drop i))
 | 0, i, 0, acc, hi, hk, ha => by omega
 | m + 1, i, 0, acc, hi, hk, ha => by omega
 | m + 1, i, 1, acc, hi, hk, ha => by omega
 | 0, i, k + 1, acc, hi, hk, ha => by
  unfold patch_form.l1
  rw [if_neg (by omega), List.drop_eq_nil_of_le (by omega)]
  simp [chB]
 | m + 1, i, k + 2, acc, hi, hk, ha => by
  have hil : i < cs.length := by omega
  have hd := drop_get z48 cs i hil
  obtain ⟨c, hcc⟩ : ∃ c, c = cs.getD i z48 := ⟨_, rfl⟩
  have hmem : c ∈ cs := by rw [hcc]; simp [List.getD, hil]
  have hcb := hc c hmem
  have hl0 : (bytesOf c.f0).length = c.f0.size := bytesOf_length _
  have hl2 : (bytesOf c.f2).length = c.f2.size := bytesOf_length _
  have hb0 := numB_len (bytesOf c.f0).length
  have hb2 := numB_len (bytesOf c.f2).length
  have hbf := numB_len (if c.f1 = true then 1 else 0)
  have hrd : zJ cs (i : Int) = c := by rw [hcc]; rfl
  have step : ∀ (g : Nat), (g = if c.f1 = true then 1 else 0) → patch_form.j2 (k + 1) acc (g : Int) cs (cs.length : Int) (i : Int) c.f0 c.f1 c.f2 = some (acc ++ chB (cs.drop i)) := by
   intro g hg
   have hbg := numB_len g
   unfold patch_form.j2
   rw [conv_b_eq c.f0 (by omega), Option.bind_some, wire_text k acc (bytesOf c.f0) (by omega) (by omega) (by omega), Option.bind_some]
   rw [wire_num g k _ (by rw [hg]; split <;> omega) (by omega) (by simp only [List.length_append]; omega), Option.bind_some]
   rw [conv_b_eq c.f2 (by omega), Option.bind_some, wire_text k _ (bytesOf c.f2) (by omega) (by omega) (by simp only [List.length_append]; omega), Option.bind_some]
   rw [wrap64_succ i (by omega)]
   rw [form_l1 cs hc hn m (i + 1) k _ (by omega) (by omega) (by simp only [List.length_append]; omega)]
   rw [hd, ← hcc, hg]
   simp [chB, hl0, hl2]
  unfold patch_form.l1
  rw [if_pos (by omega), if_pos (by omega), if_pos (by omega), hrd]
  cases hf : c.f1 with
  | true => rw [if_pos rfl, ← hf]; exact step 1 (by simp [hf])
  | false => rw [if_neg (by simp), ← hf]; exact step 0 (by simp [hf])
theorem form_l0 (ps : List ByteArray) (a nt : ByteArray) (cs : List S48) (hF : Fits ps a nt cs) : ∀ (m i k : Nat) (acc : List Int), i + m = ps.length → m + 2 * cs.length + 10 ≤ k → acc.length + 3000000 * m < 10000000000000 →
  patch_form.l0 k acc ps (ps.length : Int) (i : Int) ps a nt cs = some (acc ++ (idsB (ps.drop i) ++ (numB a.size ++ (bytesOf a ++ (numB nt.size ++ (bytesOf nt ++ (numB cs.length ++ chB cs)))))))
 | 0, i, 0, acc, hi, hk, ha => by omega
 | m + 1, i, 0, acc, hi, hk, ha => by omega
 | 0, i, k + 1, acc, hi, hk, ha => by
  have hla : (bytesOf a).length = a.size := bytesOf_length _
  have hln : (bytesOf nt).length = nt.size := bytesOf_length _
  have h1 := hF.sa
  have h2 := hF.sn
  have h3 := hF.nc
  have hb1 := numB_len (bytesOf a).length
  have hb2 := numB_len (bytesOf nt).length
  have hb3 := numB_len cs.length
  unfold patch_form.l0
  rw [if_neg (by omega), List.drop_eq_nil_of_le (by omega)]
  rw [conv_b_eq a (by omega), Option.bind_some, wire_text k acc (bytesOf a) (by omega) (by omega) (by omega), Option.bind_some]
  rw [conv_b_eq nt (by omega), Option.bind_some, wire_text k _ (bytesOf nt) (by omega) (by omega) (by simp only [List.length_append]; omega), Option.bind_some]
  rw [wraps_u64 _ (by omega) (by omega), wire_num cs.length k _ (by omega) (by omega) (by simp only [List.length_append]; omega), Option.bind_some]
  rw [show (0 : Int) = ((0 : Nat) : Int) from rfl, form_l1 cs hF.ch h3 cs.length 0 k _ (by omega) (by omega) (by simp only [List.length_append]; omega)]
  simp [idsB, hla, hln]
 | m + 1, i, k + 1, acc, hi, hk, ha => by
  have hil : i < ps.length := by omega
  have hd := drop_get ByteArray.empty ps i hil
  obtain ⟨p, hp⟩ : ∃ c, c = ps.getD i ByteArray.empty := ⟨_, rfl⟩
  have hmem : p ∈ ps := by rw [hp]; simp [List.getD, hil]
  have hps := hF.pa p hmem
  have hl : (bytesOf p).length = p.size := bytesOf_length _
  have hb := numB_len (bytesOf p).length
  have hrd : rdOf ByteArray.empty ps (i : Int) = p := by rw [hp]; rfl
  unfold patch_form.l0
  rw [if_pos (by omega), if_pos (by omega), if_pos (by omega), hrd, conv_b_eq p (by omega), Option.bind_some, wire_text k acc (bytesOf p) (by omega) (by omega) (by omega), Option.bind_some]
  have hnp := hF.np
  rw [wrap64_succ i (by omega), form_l0 ps a nt cs hF m (i + 1) k _ (by omega) (by omega) (by simp only [List.length_append]; omega)]
  rw [hd, ← hp]
  simp [idsB, hl]
theorem form_f (ps : List ByteArray) (a nt : ByteArray) (cs : List S48) (hcs : cs.length = 0) (hF : Fits ps a nt cs) (k : Nat) (hk : ps.length + 2 * cs.length + 10 ≤ k) : patch_form.f k ps a nt cs = some (formB ps a nt cs) := by
 have hnp := hF.np
 have hb := numB_len ps.length
 unfold patch_form.f
 rw [if_pos hcs, wraps_u64 _ (by omega) (by omega), wire_num ps.length k [] (by omega) (by omega) (by simp), Option.bind_some]
 rw [show (0 : Int) = ((0 : Nat) : Int) from rfl, form_l0 ps a nt cs hF ps.length 0 k _ (by omega) (by omega) (by simp; omega)]
 simp [formB]
theorem all4 (a b c d : Bool) (k : Nat) : patch_all.f (k + 6) [a, b, c, d] = some (a && b && c && d) := by
 cases a <;> cases b <;> cases c <;> cases d <;> simp [patch_all.f, slices_Contains_bool_bool.f, slices_Index_bool_bool.f, slices_Index_bool_bool.l0, rdOf, wrap64]
end Go.Proofs.YtembjjombhfglaaDoor.G
end
section
namespace Go.Proofs.YtembjjombhfglaaDoor.G
open Go.RowKit Go.Proofs.YtembjjombhfglaaDoorW.PrintWords
set_option linter.unusedVariables false
set_option linter.unusedSimpArgs false
theorem ref_num_l0 : ∀ (j n k : Nat) (acc : List Int), n < 128 * 128 ^ j → j + 1 ≤ k → acc.length + j < 140737488355328 → n < 1000000000 → grapevineref02_Num.l0 k (n : Int) acc = some (acc ++ numE j n)
 | 0, n, 0, acc, hn, hk, ha, hb => by omega
 | j + 1, n, 0, acc, hn, hk, ha, hb => by omega
 | 0, n, k + 1, acc, hn, hk, ha, hb => by
  unfold grapevineref02_Num.l0 numE
  rw [if_neg (by omega), if_pos (by omega), show ((n : Int) % 256) = (n : Int) by omega]
 | j + 1, n, k + 1, acc, hn, hk, ha, hb => by
  unfold grapevineref02_Num.l0 numE
  by_cases h : 128 ≤ n
  ·
   rw [if_pos (by omega), if_pos (by omega), if_pos h]
   have e1 : IntKind.u64.wrap (Int.tdiv (n : Int) 128) = ((n / 128 : Nat) : Int) := by
    rw [Int.tdiv_eq_ediv_of_nonneg (by omega), wraps_u64 _ (by omega) (by omega)]; omega
   have e2 : (IntKind.u64.wrap (128 + Int.tmod (n : Int) 128)) % 256 = ((n % 128 + 128 : Nat) : Int) := by
    rw [Int.tmod_eq_emod_of_nonneg (by omega), wraps_u64 _ (by omega) (by omega)]; omega
   rw [e1, e2, ref_num_l0 j (n / 128) k _ (by rw [Nat.pow_succ] at hn; omega) (by omega) (by simp; omega) (by omega)]
   simp
  · rw [if_neg (by omega), if_pos (by omega), if_neg h, show ((n : Int) % 256) = (n : Int) by omega]
theorem ref_num (n k : Nat) (acc : List Int) (hn : n < 1000000) (hk : 4 ≤ k) (ha : acc.length + 3 < 140737488355328) : grapevineref02_Num.f k acc (n : Int) = some (acc ++ numB n) := by
 unfold grapevineref02_Num.f
 rw [Option.bind_some, if_pos (by simp; omega)]
 exact ref_num_l0 3 n k acc (by omega) hk ha (by omega)
theorem ref_text (k : Nat) (acc t : List Int) (ht : t.length < 1000000) (hk : 4 ≤ k) (ha : acc.length + t.length + 4 < 140737488355328) : grapevineref02_Text.f k acc t = some (acc ++ (numB t.length ++ t)) := by
 unfold grapevineref02_Text.f
 have hl := numB_len t.length
 rw [wraps_u64 _ (by omega) (by omega), ref_num t.length k acc ht hk (by omega), Option.bind_some]
 rw [if_pos (by rw [List.length_append]; omega)]
 simp
theorem rform_l0 (ps : List ByteArray) (a nt : ByteArray) (hp : ∀ p ∈ ps, p.size < 10000) (hsa : a.size < 10000) (hsn : nt.size < 10000) (hnp : ps.length ≤ 1000) : ∀ (m i k : Nat) (acc : List Int), i + m = ps.length → m + 10 ≤ k → acc.length + 20000 * m < 10000000000 →
  grapevineref12_Form.l0 k acc (i : Int) ps a nt [] = some (acc ++ (idsB (ps.drop i) ++ (numB a.size ++ (bytesOf a ++ (numB nt.size ++ (bytesOf nt ++ numB 0))))))
 | 0, i, 0, acc, hi, hk, ha => by omega
 | m + 1, i, 0, acc, hi, hk, ha => by omega
 | 0, i, 1, acc, hi, hk, ha => by omega
 | 0, i, k + 2, acc, hi, hk, ha => by
  have hla : (bytesOf a).length = a.size := bytesOf_length _
  have hln : (bytesOf nt).length = nt.size := bytesOf_length _
  have hb1 := numB_len (bytesOf a).length
  have hb2 := numB_len (bytesOf nt).length
  have hb3 := numB_len 0
  unfold grapevineref12_Form.l0
  rw [if_neg (by omega), List.drop_eq_nil_of_le (by omega)]
  rw [conv_b_eq a (by omega), Option.bind_some, ref_text _ acc (bytesOf a) (by omega) (by omega) (by omega), Option.bind_some]
  rw [conv_b_eq nt (by omega), Option.bind_some, ref_text _ _ (bytesOf nt) (by omega) (by omega) (by simp only [List.length_append]; omega), Option.bind_some]
  rw [wraps_u64 _ (by simp) (by simp), show ((([] : List S48).length : Nat) : Int) = ((0 : Nat) : Int) from rfl, ref_num 0 _ _ (by omega) (by omega) (by simp only [List.length_append]; omega), Option.bind_some]
  unfold grapevineref12_Form.l1
  rw [if_neg (by simp)]
  simp [idsB, hla, hln]
 | m + 1, i, k + 1, acc, hi, hk, ha => by
  have hil : i < ps.length := by omega
  have hd := drop_get ByteArray.empty ps i hil
  obtain ⟨p, hpp⟩ : ∃ c, c = ps.getD i ByteArray.empty := ⟨_, rfl⟩
  have hmem : p ∈ ps := by rw [hpp]; simp [List.getD, hil]
  have hps := hp p hmem
  have hl : (bytesOf p).length = p.size := bytesOf_length _
  have hb := numB_len (bytesOf p).length
  have hrd : rdOf ByteArray.empty ps (i : Int) = p := by rw [hpp]; rfl
  unfold grapevineref12_Form.l0
  rw [if_pos (by omega), if_pos (by omega), hrd, conv_b_eq p (by omega), Option.bind_some, ref_text k acc (bytesOf p) (by omega) (by omega) (by omega), Option.bind_some]
  rw [wrap64_succ i (by omega), rform_l0 ps a nt hp hsa hsn hnp m (i + 1) k _ (by omega) (by omega) (by simp only [List.length_append]; omega)]
  rw [hd, ← hpp]
  simp [idsB, hl]
end Go.Proofs.YtembjjombhfglaaDoor.G
end
section
namespace Go.Proofs.YtembjjombhfglaaDoor.G
open Go.RowKit Go.Proofs.YtembjjombhfglaaDoorW.PrintWords
set_option linter.unusedVariables false
set_option linter.unusedSimpArgs false
theorem rform_f (ps : List ByteArray) (a nt : ByteArray) (hp : ∀ p ∈ ps, p.size < 10000) (hsa : a.size < 10000) (hsn : nt.size < 10000) (hnp : ps.length ≤ 1000) (k : Nat) (hk : ps.length + 10 ≤ k) : grapevineref12_Form.f k ps a nt [] = some (formB ps a nt []) := by
 have hb := numB_len ps.length
 unfold grapevineref12_Form.f
 rw [wraps_u64 _ (by omega) (by omega), ref_num ps.length k [] (by omega) (by omega) (by simp), Option.bind_some]
 rw [show (0 : Int) = ((0 : Nat) : Int) from rfl, rform_l0 ps a nt hp hsa hsn hnp ps.length 0 k _ (by omega) (by omega) (by simp; omega)]
 simp [formB, chB]
def Rising (ps : List ByteArray) : Prop := ∀ i, i < ps.length → (ps.getD i ByteArray.empty).size = 32 ∧ (0 < i → Op.bytesLess (ps.getD (i - 1) ByteArray.empty).toList (ps.getD i ByteArray.empty).toList = true)
theorem right_l0 (ps : List ByteArray) (a nt : ByteArray) (cs : List S48) (hr : Rising ps) (hn : ps.length ≤ 1000) : ∀ (m i k : Nat), i + m = ps.length → patch_Right.l0 (k + m + 1) ps (ps.length : Int) (i : Int) ps a nt cs = patch_Right.l1 k cs (cs.length : Int) 0 ps a nt cs
 | 0, i, k, hi => by
  rw [Nat.add_zero]
  unfold patch_Right.l0
  rw [if_neg (by omega)]
 | m + 1, i, k, hi => by
  obtain ⟨h1, h2⟩ := hr i (by omega)
  have e1 : rdOf ByteArray.empty ps (i : Int) = ps.getD i ByteArray.empty := rfl
  rw [show k + (m + 1) + 1 = (k + m + 1) + 1 by omega]
  unfold patch_Right.l0
  rw [if_pos (by omega), if_pos (by omega), if_pos (by omega), e1, if_pos (by omega)]
  have rec_ := right_l0 ps a nt cs hr hn m (i + 1) k (by omega)
  by_cases h0 : 0 < i
  ·
   have e2 : wrap64 ((i : Int) - 1) = ((i - 1 : Nat) : Int) := by unfold wrap64; omega
   have e3 : rdOf ByteArray.empty ps ((i - 1 : Nat) : Int) = ps.getD (i - 1) ByteArray.empty := rfl
   rw [if_pos (by omega), e2, if_pos (by omega), if_pos (by omega), e3, if_pos (h2 h0), wrap64_succ i (by omega)]
   exact rec_
  ·
   rw [if_neg (by omega), wrap64_succ i (by omega)]
   exact rec_
theorem right_limits (ps : List ByteArray) (a nt : ByteArray) (hr : Rising ps) (h1 : ps.length ≤ 16) (h2 : a.size ≤ 100) (h3 : nt.size ≤ 1000) (k : Nat) (hk : 100 ≤ k) : patch_Right.f k ps a nt [] = some true := by
 obtain ⟨k', rfl⟩ : ∃ k', k = (k' + 1) + ps.length + 1 := ⟨k - ps.length - 2, by omega⟩
 unfold patch_Right.f
 rw [if_pos (by rfl)]
 obtain ⟨k6, hk6⟩ : ∃ k6, k' + 1 + ps.length + 1 = k6 + 6 := ⟨k' + 1 + ps.length + 1 - 6, by omega⟩
 have hall : patch_all.f (k' + 1 + ps.length + 1) [decide ((ps.length : Int) ≤ 16), decide ((a.size : Int) ≤ 100), decide ((nt.size : Int) ≤ 1000), decide ((([] : List S48).length : Int) ≤ 100)] = some true := by
  rw [hk6, all4]
  simp
  omega
 rw [hall, Option.bind_some, if_pos rfl]
 rw [show (0 : Int) = ((0 : Nat) : Int) from rfl, right_l0 ps a nt [] hr (by omega) ps.length 0 (k' + 1) (by omega)]
 unfold patch_Right.l1
 rw [if_neg (by simp)]
 have hF : Fits ps a nt [] := ⟨by omega, by simp, fun p hp => by
  obtain ⟨i, hi, rfl⟩ := List.getElem_of_mem hp
  have := (hr i hi).1
  simp only [List.getD, List.getElem?_eq_getElem hi, Option.getD_some] at this
  omega, by omega, by omega, fun c hc => by cases hc⟩
 rw [form_f ps a nt [] rfl hF k' (by simp; omega), Option.bind_some]
 have hlen : (formB ps a nt []).length ≤ 131072 := by
  have hids : ∀ (l : List ByteArray), (∀ p ∈ l, p.size = 32) → (idsB l).length ≤ 36 * l.length := by
   intro l hl
   induction l with
   | nil => simp [idsB]
   | cons p l ih =>
    have h5 := ih (fun q hq => hl q (by simp [hq]))
    have h6 := hl p (by simp)
    have h7 := numB_len p.size
    have h8 : (bytesOf p).length = p.size := bytesOf_length _
    simp only [idsB, List.flatMap_cons, List.length_append, List.length_cons] at h5 ⊢
    omega
  have h4 := hids ps (fun p hp => by
   obtain ⟨i, hi, rfl⟩ := List.getElem_of_mem hp
   have := (hr i hi).1
   simpa only [List.getD, List.getElem?_eq_getElem hi, Option.getD_some] using this)
  have hla : (bytesOf a).length = a.size := bytesOf_length _
  have hln : (bytesOf nt).length = nt.size := bytesOf_length _
  have b1 := numB_len ps.length
  have b2 := numB_len a.size
  have b3 := numB_len nt.size
  have b4 := numB_len 0
  simp only [formB, chB, List.length_append, List.flatMap_nil, List.length_nil]
  omega
 simp [hlen]
 omega
theorem right_beyond (ps : List ByteArray) (a nt : ByteArray) (h : ¬ (ps.length ≤ 16 ∧ a.size ≤ 100 ∧ nt.size ≤ 1000)) (k : Nat) (hk : 100 ≤ k) : patch_Right.f k ps a nt [] = some false := by
 unfold patch_Right.f
 rw [if_pos (by rfl)]
 obtain ⟨k6, rfl⟩ : ∃ k6, k = k6 + 6 := ⟨k - 6, by omega⟩
 rw [all4]
 have : (decide ((ps.length : Int) ≤ 16) && decide ((a.size : Int) ≤ 100) && decide ((nt.size : Int) ≤ 1000) && decide ((([] : List S48).length : Int) ≤ 100)) = false := by
  rw [Bool.eq_false_iff]
  intro he
  simp only [Bool.and_eq_true, decide_eq_true_eq] at he
  exact h ⟨by omega, by omega, by omega⟩
 rw [this, Option.bind_some, if_neg (by simp)]
theorem ids_same (ps : List ByteArray) (hn : ps.length ≤ 1000) : ∀ (m i k : Nat), i + m = ps.length → grapevineref01_Ids.l0 (k + m + 1) ps ps (i : Int) = some true
 | 0, i, k, hi => by
  rw [Nat.add_zero]
  unfold grapevineref01_Ids.l0
  rw [if_neg (by omega)]
 | m + 1, i, k, hi => by
  rw [show k + (m + 1) + 1 = (k + m + 1) + 1 by omega]
  unfold grapevineref01_Ids.l0
  rw [if_pos (by omega), if_pos (by omega), if_pos (by omega), if_pos rfl, wrap64_succ i (by omega)]
  exact ids_same ps hn m (i + 1) k (by omega)
theorem changes_same (cs : List S48) (hn : cs.length ≤ 1000) : ∀ (m i k : Nat), i + m = cs.length → grapevineref12_Changes.l0 (k + m + 1) cs cs (i : Int) = some true
 | 0, i, k, hi => by
  rw [Nat.add_zero]
  unfold grapevineref12_Changes.l0
  rw [if_neg (by omega)]
 | m + 1, i, k, hi => by
  rw [show k + (m + 1) + 1 = (k + m + 1) + 1 by omega]
  unfold grapevineref12_Changes.l0
  rw [if_pos (by omega), if_pos (by omega), if_pos (by omega), if_neg (by simp), wrap64_succ i (by omega)]
  exact changes_same cs hn m (i + 1) k (by omega)
theorem same_same (ps : List ByteArray) (a nt : ByteArray) (cs : List S48) (h1 : ps.length ≤ 1000) (h2 : cs.length ≤ 1000) (k : Nat) (hk : ps.length + cs.length + 2 ≤ k) : grapevineref12_Same.f k ps a nt cs ps a nt cs = some true := by
 unfold grapevineref12_Same.f grapevineref01_Ids.f grapevineref12_Changes.f
 obtain ⟨k1, hk1⟩ : ∃ k1, k = k1 + ps.length + 1 := ⟨k - ps.length - 1, by omega⟩
 obtain ⟨k2, hk2⟩ : ∃ k2, k = k2 + cs.length + 1 := ⟨k - cs.length - 1, by omega⟩
 rw [if_pos rfl]
 have e1 := ids_same ps h1 ps.length 0 k1 (by omega)
 have e2 := changes_same cs h2 cs.length 0 k2 (by omega)
 rw [← hk1] at e1
 rw [← hk2] at e2
 rw [show (0 : Int) = ((0 : Nat) : Int) from rfl, e1, Option.bind_some, if_pos rfl, if_pos rfl, if_pos rfl, if_pos rfl, e2]
 rfl
theorem numR_fail (l : List Int) (f : Int) (h : f ≠ 0) : numR l f = (0, l, f) := by unfold numR; rw [if_neg h]
theorem textR_fail (m : Int) (l : List Int) (f : Int) (h : f ≠ 0) : textR m l f = ([], l, f) := by unfold textR; rw [if_neg h]
theorem decode_beyond (ps : List ByteArray) (a nt : ByteArray) (h0 : ps.length ≤ 1000) (h32 : ∀ p ∈ ps, p.size ≤ 32) (ha : a.size ≤ 10000) (hn : nt.size ≤ 10000) (h : ¬ (ps.length ≤ 16 ∧ a.size ≤ 100 ∧ nt.size ≤ 1000)) (hlen : ¬ 131072 < (formB ps a nt []).length) :
  patch_Decode.f (formB ps a nt []) = some ([], ⟨#[]⟩, ⟨#[]⟩, [], 4) := by
 have hla : (bytesOf a).length = a.size := bytesOf_length _
 have hln : (bytesOf nt).length = nt.size := bytesOf_length _
 unfold patch_Decode.f
 rw [if_neg hlen]
 by_cases h16 : ps.length ≤ 16
 ·
  by_cases ha2 : a.size ≤ 100
  ·
   have hn2 : 1000 < nt.size := by omega
   have e : (patchR (formB ps a nt [])).2.2.2.2.2.2.1 = false ∧ (patchR (formB ps a nt [])).2.2.2.2.2.1 = 4 := by
    unfold patchR formB
    rw [numR_num ps.length (by omega)]
    simp only
    rw [if_neg (by omega), show decide ((16 : Int) < (ps.length : Int)) = false by simp; omega, Int.toNat_natCast, parentsR_ids _ ps [] h32]
    unfold patchR2
    simp only
    rw [if_pos (by rfl)]
    have ht := textR_text 100 (bytesOf a) (numB nt.size ++ (bytesOf nt ++ (numB ([] : List S48).length ++ chB []))) (by omega) (by omega)
    rw [show ((100 : Nat) : Int) = 100 from rfl, hla] at ht
    have ht2 := textR_long 1000 (bytesOf nt) (numB ([] : List S48).length ++ chB []) (by omega) (by omega)
    rw [show ((1000 : Nat) : Int) = 1000 from rfl, hln] at ht2
    simp only [ht, ht2, numR_fail _ 4 (by decide)]
    exact ⟨rfl, rfl⟩
   rw [if_neg (by rw [e.1]; simp), if_pos (by rw [e.2]; unfold endR; rw [if_neg (by omega)]; omega), e.2]
   unfold endR
   rw [if_neg (by omega)]
  ·
   have e : (patchR (formB ps a nt [])).2.2.2.2.2.2.1 = false ∧ (patchR (formB ps a nt [])).2.2.2.2.2.1 = 4 := by
    unfold patchR formB
    rw [numR_num ps.length (by omega)]
    simp only
    rw [if_neg (by omega), show decide ((16 : Int) < (ps.length : Int)) = false by simp; omega, Int.toNat_natCast, parentsR_ids _ ps [] h32]
    unfold patchR2
    simp only
    rw [if_pos (by rfl)]
    have ht := textR_long 100 (bytesOf a) (numB nt.size ++ (bytesOf nt ++ (numB ([] : List S48).length ++ chB []))) (by omega) (by omega)
    rw [show ((100 : Nat) : Int) = 100 from rfl, hla] at ht
    simp only [ht, textR_fail _ _ 4 (by decide), numR_fail _ 4 (by decide)]
    exact ⟨rfl, rfl⟩
   rw [if_neg (by rw [e.1]; simp), if_pos (by rw [e.2]; unfold endR; rw [if_neg (by omega)]; omega), e.2]
   unfold endR
   rw [if_neg (by omega)]
 ·
  have e : (patchR (formB ps a nt [])).2.2.2.2.2.2.1 = true := by
   unfold patchR formB
   rw [numR_num ps.length (by omega)]
   simp only
   rw [if_pos (by omega), show decide ((16 : Int) < (ps.length : Int)) = true by simp; omega]
   unfold patchR2 parentsR goesR
   simp
  rw [if_pos e]
end Go.Proofs.YtembjjombhfglaaDoor.G
end
