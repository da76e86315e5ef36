/- Laws of our own that the printed texts lean on: the order of strings asked from either side; a call of a function value that is known. No condition. -/
import Derived.Laws.Strings
import Derived.WalkKit
namespace Go
theorem mine_less_total (x y : List UInt8) : (!(Op.bytesLess x y || x == y)) = Op.bytesLess y x := by
  induction x generalizing y with
  | nil =>
    cases y with
    | nil => rfl
    | cons b y => simp [Op.bytesLess]
  | cons a x ih =>
    cases y with
    | nil => simp [Op.bytesLess]
    | cons b y =>
      have h := ih y
      simp only [Op.bytesLess]
      by_cases hab : a < b
      · have h1 : ¬ b < a := by simp only [UInt8.lt_iff_toNat_lt] at *; omega
        have h2 : ¬ b = a := by intro e; subst e; simp only [UInt8.lt_iff_toNat_lt] at *; omega
        simp [hab, h1, h2]
      · by_cases hba : b < a
        · have h2 : ¬ a = b := by intro e; subst e; exact hab hba
          simp [hab, hba, h2]
        · have e : a = b := by apply UInt8.toNat_inj.mp; simp only [UInt8.lt_iff_toNat_lt] at *; omega
          subst e
          simp only [hab, beq_self_eq_true, Bool.true_and, decide_false, Bool.false_or, List.cons_beq_cons]
          exact h
@[go_sem] theorem mine_string_gtr (t : TypeId) (a b : ByteArray) : binOp .gtr t (.string a) (.string b) = pure (.bool (Op.bytesLess b.toList a.toList)) := by
  rw [← mine_less_total a.toList b.toList]; simp [binOp, Op.stringOp]
theorem mine_leq (x y : List UInt8) : (Op.bytesLess x y || x == y) = !(Op.bytesLess y x) := by rw [← mine_less_total x y]; simp
@[go_sem] theorem mine_string_leq (t : TypeId) (a b : ByteArray) : binOp .leq t (.string a) (.string b) = pure (.bool !(Op.bytesLess b.toList a.toList)) := by
  rw [← mine_leq a.toList b.toList]; simp [binOp, Op.stringOp]
@[go_sem] theorem mine_string_geq (t : TypeId) (a b : ByteArray) : binOp .geq t (.string a) (.string b) = pure (.bool !(Op.bytesLess a.toList b.toList)) := by simp [binOp, Op.stringOp]
section
variable {P : Program} {ops : Array Oper} {Q : Exit → Act → World → Prop}
theorem mine_enters {f : FuncId} {fn : Func} (hf : P.funcs[f]? = some fn) (hname : (fn.name == "runtime.NumGoroutine") = false) (hb : fn.body.isSome = true) (args : Array Value) (w : World) : (callFunc f args).run P w = .ok (.enter f args) w := by
  have h1 : fn.name ≠ "runtime.NumGoroutine" := by simpa using hname
  obtain ⟨c, hc⟩ := Option.isSome_iff_exists.1 hb
  simp [callFunc, hf, h1, hc]
theorem gate_via {o : Oper} {rest : List Oper} {a : Act} {W : World} {i : Nat} {f : FuncId} {as : Array Operand} {ts : Array TypeId} (_ho : o.op = .call { callee := .value (.tmp i), args := as, argTypes := ts }) (_hv : a.eval (.tmp i) = .func (.func f) #[] #[]) (h : wpList P ops Q (o :: rest) a W) : wpList P ops Q (o :: rest) a W := h
/-- A call of a function value that is known. -/
theorem goesV_ {rest : List Oper} {oi : Oper} {a : Act} {w : World} (N : Option Tmp) (hd : oi.dst = N) (hg : oi.guard = none) {f : FuncId} {fn : Func} {as : Array Operand} {ts : Array TypeId} (hf : P.funcs[f]? = some fn) (hname : (fn.name == "runtime.NumGoroutine") = false) (hb : fn.body.isSome = true) (args : Array Value) {s : Operand}
    (hs : a.eval s = .func (.func f) #[] #[]) (hop : oi.op = .call { callee := .value s, args := as, argTypes := ts }) (hargs : as.map a.eval = args)
    (h : Calls P f args w fun e w' => ∃ v, e = .returned v ∧ wpList P ops Q rest (a.put N v) w') : wpList P ops Q (oi :: rest) a w := by
  refine wpList_plain hg fun K hK => ?_
  have he := mine_enters hf hname hb args w
  have hrun : (execOp a.eval oi).run P w = .ok (.enter f args) w := by
    unfold execOp
    simp [hop, resolve, Deferred.ofValue, invoke, hs, hargs, he]
  unfold Oper.wp
  rw [hrun, Oper.upon_enter]
  refine h.mono fun e w'' hh => ?_
  obtain ⟨v, rfl, hk⟩ := hh
  subst hd
  exact hK _ _ hk
end
/-- an element of three Bools -/
def rda3t (p : Bool × Bool × Bool) (i : Int) : Bool := if i = 0 then p.1 else if i = 1 then p.2.1 else p.2.2
theorem mine_index3 {P : Program} (t e : TypeId) (h : P.underlying t = some (.array 3 e)) (hs : ∀ w : World, (sizeOf e).run P w = .ok 1 w) (ha : ∀ w : World, (isAgg e).run P w = .ok false w) (a b c : Bool) (k : IntKind) (i : Int) (h0 : 0 ≤ i) (h1 : i < 3) (w : World) :
    (Instr.index t (.agg #[.bool a, .bool b, .bool c]) (.int k i)).run P w = .ok (.bool (rda3t (a, b, c) i)) w := by
  have : i = 0 ∨ i = 1 ∨ i = 2 := by omega
  rcases this with rfl | rfl | rfl <;> simp [Instr.index, run_underlying h, asIntOf, go_sem, hs, ha, rda3t]
end Go
