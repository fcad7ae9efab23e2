/- Strings as lists of bytes. -/
import Derived.Test.YtfbblligbacppaaDoorEnv
import Derived.Lib.Strings
namespace Go.Proofs.YtfbblligbacppaaDoor
open Go.RowKit

theorem toList_mk (l : List UInt8) : (⟨l.toArray⟩ : ByteArray).toList = l := by rw [ByteArray.toList_eq]
theorem ext_mk (l : List UInt8) (a b : Nat) : (⟨l.toArray⟩ : ByteArray).extract a b = ⟨((l.drop a).take (b - a)).toArray⟩ := by
  have h := Lib.extract_data ⟨l.toArray⟩ a b
  have e : ∀ x : ByteArray, x = ⟨x.data.toList.toArray⟩ := fun x => by cases x; simp
  rw [e (ByteArray.extract _ _ _), h]
theorem ret_str {l l' : List UInt8} (h : l = l') : Ending.returned (.string ⟨l.toArray⟩) = .returned (.string ⟨l'.toArray⟩) := by rw [h]
theorem ret_str' {s : ByteArray} {l' : List UInt8} (h : s = ⟨l'.toArray⟩) : Ending.returned (.string s) = .returned (.string ⟨l'.toArray⟩) := by rw [h]
theorem ret_bool {b c : Bool} (h : b = c) : Ending.returned (.bool b) = .returned (.bool c) := by rw [h]
theorem ret_int {k : IntKind} {a b : Int} (h : a = b) : Ending.returned (.int k a) = .returned (.int k b) := by rw [h]
theorem app_mk (a b : List UInt8) : (⟨a.toArray⟩ : ByteArray) ++ ⟨b.toArray⟩ = ⟨(a ++ b).toArray⟩ := by
  have e : ∀ x : ByteArray, x = ⟨x.data.toList.toArray⟩ := fun x => by cases x; simp
  rw [e (HAppend.hAppend _ _), ByteArray.data_append]
  simp
end Go.Proofs.YtfbblligbacppaaDoor
