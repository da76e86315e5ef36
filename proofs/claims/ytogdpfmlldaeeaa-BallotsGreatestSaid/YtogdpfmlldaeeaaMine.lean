/- Laws of our own that the printed texts lean on: the order of strings asked from either side; a call of a function value that is known. No condition. -/
import Derived.Laws.Strings
import Derived.WalkKit
namespace Go
theorem mine_less_total (x y : List UInt8) : (!(Op.bytesLess x y || x == y)) = Op.bytesLess y x := by
  induction x generalizing y with
  | nil =>
    cases y with
    | nil => rfl
    | cons b y => simp [Op.bytesLess]
  | cons a x ih =>
    cases y with
    | nil => simp [Op.bytesLess]
    | cons b y =>
      have h := ih y
      simp only [Op.bytesLess]
      by_cases hab : a < b
      · have h1 : ¬ b < a := by simp only [UInt8.lt_iff_toNat_lt] at *; omega
        have h2 : ¬ b = a := by intro e; subst e; simp only [UInt8.lt_iff_toNat_lt] at *; omega
        simp [hab, h1, h2]
      · by_cases hba : b < a
        · have h2 : ¬ a = b := by intro e; subst e; exact hab hba
          simp [hab, hba, h2]
        · have e : a = b := by apply UInt8.toNat_inj.mp; simp only [UInt8.lt_iff_toNat_lt] at *; omega
          subst e
          simp only [hab, beq_self_eq_true, Bool.true_and, decide_false, Bool.false_or, List.cons_beq_cons]
          exact h
@[go_sem] theorem mine_string_gtr (t : TypeId) (a b : ByteArray) : binOp .gtr t (.string a) (.string b) = pure (.bool (Op.bytesLess b.toList a.toList)) := by
  rw [← mine_less_total a.toList b.toList]; simp [binOp, Op.stringOp]
theorem mine_leq (x y : List UInt8) : (Op.bytesLess x y || x == y) = !(Op.bytesLess y x) := by rw [← mine_less_total x y]; simp
@[go_sem] theorem mine_string_leq (t : TypeId) (a b : ByteArray) : binOp .leq t (.string a) (.string b) = pure (.bool !(Op.bytesLess b.toList a.toList)) := by
  rw [← mine_leq a.toList b.toList]; simp [binOp, Op.stringOp]
@[go_sem] theorem mine_string_geq (t : TypeId) (a b : ByteArray) : binOp .geq t (.string a) (.string b) = pure (.bool !(Op.bytesLess a.toList b.toList)) := by simp [binOp, Op.stringOp]
end Go
