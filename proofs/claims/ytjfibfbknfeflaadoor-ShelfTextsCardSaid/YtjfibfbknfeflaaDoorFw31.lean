import Derived.Test.YtjfibfbknfeflaaDoorFw30
import Derived.Laws.Concat
namespace Go.Proofs.YtjfibfbknfeflaaDoor.Fw
open Go
set_option linter.unusedVariables false
set_option linter.unusedSimpArgs false
set_option linter.unusedSectionVars false

/- Texts put together; a part that is brought to the front. -/
section
variable {P : Program} {f : Fr} {w0 : World} {K : Post} {n : Nat} {d : List Deferred} {ops : Array Oper} {rest : List Oper} {k : List Item} {e : Env} {F F' : List Atom}
variable {ty : TypeId} {pos : String} {aft : Array Edge}
theorem q_adds {t x y a b T T2} (hx : evO e x = some (.string a)) (hy : evO e y = some (.string b)) (h : a.size + b.size ≤ 9223372036854775807) : QV P w0 (.mk (some t) (.binOp .add T x y T2) ty pos aft none) e F (.string (a ++ b)) := by
  intro ρ w ha hw
  simp only [execOp, ha _ _ hx, ha _ _ hy]
  refine run_value ?_
  have h1 := run_string_add_sum (P := P) w a b h
  simp [eqGuard, binOp_string_add, go_sem]
  exact h
theorem l_adds {t x y a b T T2} (ht : Nat.ble (t + 1) n = true) (hx : evO e x = some (.string a)) (hy : evO e y = some (.string b)) (h : a.size + b.size ≤ 9223372036854775807) (hk : GL P f w0 K n d ops rest k ((t, .string (a ++ b)) :: e) F) :
    GL P f w0 K n d ops (.mk (some t) (.binOp .add T x y T2) ty pos aft none :: rest) k e F := l_val ht (q_adds (t := t) (F := F) hx hy h) hk
end
end Go.Proofs.YtjfibfbknfeflaaDoor.Fw
