import Derived.Test.YtjegoojkjcjpnaaDoesDo
import Derived.BigQuiet
import Derived.Deep.QuietTactic
namespace Go.Proofs.Ytjegoojkjcjpnaa.DoesWalk
set_option linter.unusedVariables false
set_option linter.unusedSimpArgs false
open Go.RowKit Go.Proofs.YtjegoojkjcjpnaaW.PrintWords Go.Proofs.YtjegoojkjcjpnaaW.PrintLast Go.Proofs.YtjegoojkjcjpnaaW.PrintMore
open Go.Proofs.Ytjegoojkjcjpnaa.PAluDoes

theorem does_mine (op : Int) (w : World) : Calls Try.prog 17 #[.int .i64 op] w fun e w' => e = .returned (.bool (decide (5 ≤ op ∧ op ≤ 17))) ∧ Drawn0 w w' := by
  by_cases h1 : 5 ≤ op
  · go_enter Try.func17, Try.ntmps17
    go_wp2
    go_ret
    exact ⟨by simp; omega, Drawn0.refl _⟩
  · have h2 : decide (5 ≤ op) = false := by simp; omega
    go_enter Try.func17, Try.ntmps17
    go_wp2
    go_ret
    exact ⟨by simp [h1], Drawn0.refl _⟩

theorem q_add {P : Program} {f : FuncId} {args : Array Value} {w : World} {a n : Nat} {v : Value}
    (h : Calls P f args (w.drewN (a + n)) fun e w' => e = .returned v ∧ Drawn0 (w.drewN (a + n)) w') :
    Calls P f args (w.drewN (a + n)) fun e w'' => e = .returned v ∧ ∃ m, w'' = w.drewN (a + m) :=
  h.mono fun _ _ ⟨he, ⟨m, hm⟩⟩ => ⟨he, n + m, by rw [hm, World.drewN_drewN, Nat.add_assoc]⟩

set_option maxHeartbeats 400000 in
theorem law_any (op x y : Int) (w : World) (x0 : 0 ≤ x) (x1 : x < 4294967296) (y0 : 0 ≤ y) (y1 : y < 4294967296) :
    Calls Try.prog 8 #[.agg #[.int .i64 op, .int .u32 x, .int .u32 y]] w fun e w' => e = .returned (.bool true) ∧ Below w.heap.size w w' := by
  have hu24 := Try.underlying24
  obtain ⟨r, c, h1, h2⟩ := do_same op x y x0 x1 y0 y1
  have H1 := Aside0.mk (fun w => alu_Do.calls 1 op x y r c w h1)
  have H2 := Aside0.mk h2
  have H3 := Aside0.mk (does_mine op)
  have H4 := Aside0.mk (does_any op)
  generalize decide (5 ≤ op ∧ op ≤ 17) = b at *
  clear h1 h2
  go_enter Try.func8, Try.ntmps8
  go_wp2_with (first | (go_at_call 14; (with_reducible refine (H1.out _).mono ?_); rintro e w' ⟨rfl, ⟨n, rfl⟩⟩) | (go_at_call 16; (with_reducible refine (H2.out _).mono ?_); rintro e w' ⟨rfl, ⟨n, rfl⟩⟩))
  go_quiet (first | (go_at_call 17; exact q_add (H3.out _)) | (go_at_call 18; exact q_add (H4.out _)))
  go_wp2
  go_ret
  exact ⟨rfl, by repeat (first | (with_reducible first | apply below_alloc | apply pw_below_drewN) | exact Below.refl _ _)⟩
end Go.Proofs.Ytjegoojkjcjpnaa.DoesWalk
