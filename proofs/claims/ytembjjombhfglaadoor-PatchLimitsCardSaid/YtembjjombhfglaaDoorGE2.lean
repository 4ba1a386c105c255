import Derived.Test.YtembjjombhfglaaDoorG0
import Derived.Test.YtembjjombhfglaaDoorShelf
namespace Go.Proofs.YtembjjombhfglaaDoor.G
open Go.RowKit Go.Proofs.YtembjjombhfglaaDoorW.PrintWords Go.Proofs.YtembjjombhfglaaDoorW.PrintLast Go.Proofs.YtembjjombhfglaaDoorW.PrintMore
set_option linter.unusedVariables false
theorem one_byte {s : ByteArray} (h : s.size = 1) : s = ⟨#[UInt8.ofNat (bt s 0).toNat]⟩ := by
 obtain ⟨⟨l⟩⟩ := s
 match l, h with
 | [c], _ =>
  have h1 : bt ⟨⟨[c]⟩⟩ 0 = (c.toNat : Int) := by
   unfold bt
   rw [dif_pos (show (0 : Int).toNat < (⟨⟨[c]⟩⟩ : ByteArray).size from Nat.zero_lt_one)]
   rfl
  rw [h1]
  simp
def strings_Index.f (a0 a1 : ByteArray) : Option Int := if a1.size = 1 then some (Lib.indexByte a0.data.toList (UInt8.ofNat (bt a1 0).toNat)) else none
theorem strings_Index.calls (a0 a1 : ByteArray) (r : Int) (w : World) (h : strings_Index.f a0 a1 = some r) :
  Calls Tryd.prog 83 #[.string a0, .string a1] w fun e w' => e = .returned (.int .i64 r) ∧ Drawn0 w w' := by
 unfold strings_Index.f at h
 by_cases h1 : a1.size = 1
 ·
  rw [if_pos h1] at h
  obtain rfl := Option.some.inj h
  rw [one_byte h1]
  have e : UInt8.ofNat (bt ⟨#[UInt8.ofNat (bt a1 0).toNat]⟩ 0).toNat = UInt8.ofNat (bt a1 0).toNat := by rw [← one_byte h1]
  rw [e]
  exact (Go.Proofs.Tryd.strings_Index_one a0 _ w).mono fun e w' ⟨he, hw⟩ => ⟨he, hw ▸ Drawn0.refl _⟩
 ·
  rw [if_neg h1] at h
  cases h
def strings_Count.f (a0 a1 : ByteArray) : Option Int := if a1.size = 1 then some (Lib.countByte a0.data.toList (UInt8.ofNat (bt a1 0).toNat)) else none
theorem strings_Count.calls (a0 a1 : ByteArray) (r : Int) (w : World) (h : strings_Count.f a0 a1 = some r) :
  Calls Tryd.prog 82 #[.string a0, .string a1] w fun e w' => e = .returned (.int .i64 r) ∧ Drawn0 w w' := by
 unfold strings_Count.f at h
 by_cases h1 : a1.size = 1
 ·
  rw [if_pos h1] at h
  obtain rfl := Option.some.inj h
  rw [one_byte h1]
  have e : UInt8.ofNat (bt ⟨#[UInt8.ofNat (bt a1 0).toNat]⟩ 0).toNat = UInt8.ofNat (bt a1 0).toNat := by rw [← one_byte h1]
  rw [e]
  exact (Go.Proofs.Tryd.strings_Count_one a0 _ w).mono fun e w' ⟨he, hw⟩ => ⟨he, hw ▸ Drawn0.refl _⟩
 ·
  rw [if_neg h1] at h
  cases h
def strings_explode.f (a0 : ByteArray) (a1 : Int) : Option (List ByteArray) := none
theorem strings_explode.calls (a0 : ByteArray) (a1 : Int) (r : List ByteArray) (w : World) (h : strings_explode.f a0 a1 = some r) :
  Calls Tryd.prog 81 #[.string a0, .int .i64 a1] w fun e w' => ∃ v0_ : Value, e = .returned (v0_) ∧ Kd.R Kd.string 9 w' w.heap.size (fun _ => True) v0_ r ∧ Below w.heap.size w w' := by
 cases h
end Go.Proofs.YtembjjombhfglaaDoor.G
