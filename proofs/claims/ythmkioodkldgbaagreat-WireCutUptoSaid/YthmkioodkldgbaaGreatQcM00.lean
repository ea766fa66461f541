/- Two strings compared by <= : what the walks' tactics want to know of it. -/
import Derived.Laws.Strings
namespace Go
theorem bytesLess_total : ∀ x y : List UInt8, (Op.bytesLess x y || x == y) = !(Op.bytesLess y x)
 | [], [] => rfl
 | [], _ :: _ => rfl
 | _ :: _, [] => rfl
 | a :: x, b :: y => by
  have ih := bytesLess_total x y
  simp only [Op.bytesLess]
  by_cases h1 : a < b
  ·have h2 : ¬ b < a := UInt8.lt_asymm h1
   have h3 : ¬ b = a := fun e => h2 (e ▸ h1)
   simp [h1, h2, h3]
  ·by_cases h2 : b < a
   ·have h3 : ¬ a = b := fun e => h1 (e ▸ h2)
    simp [h1, h2, h3]
   ·have h3 : a = b := UInt8.le_antisymm (UInt8.not_lt.1 h2) (UInt8.not_lt.1 h1)
    subst h3
    simpa [h1] using ih
@[go_sem] theorem binOp_string_leq (t : TypeId) (a b : ByteArray) : binOp .leq t (.string a) (.string b) = pure (.bool (!(Op.bytesLess b.toList a.toList))) := by
 rw [← bytesLess_total]
 simp [binOp, Op.stringOp]
end Go
