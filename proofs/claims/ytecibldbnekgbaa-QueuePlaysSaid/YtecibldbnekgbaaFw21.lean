import Derived.Test.YtecibldbnekgbaaFw20
namespace Go.Proofs.Ytecibldbnekgbaa.Fw
open Go
set_option linter.unusedVariables false
set_option linter.unusedSimpArgs false

/- New blocks in drawn regions. -/
section
variable {P : Program} {w0 : World} {e : Env} {F : List Atom} {ty : TypeId} {pos : String} {aft : Array Edge}
theorem does_new {t op E} {c : List Value} {v : Nat → Value} (h : ∀ ρ w, Kn e ρ → Holds w0 F w → (execOp ρ (.mk (some t) op ty pos aft none)).run P w = .ok (.value (v w.heap.size)) { w with heap := w.heap.push (.cells c.toArray E (0, 0)) }) :
    Does P w0 (.mk (some t) op ty pos aft none) e F (fun v2 F2 => ∃ b, v2 = v b ∧ F2 = Blk b (.cells c.toArray E (0, 0)) :: F) :=
  fun ρ w ha hw => .inl ⟨_, _, _, .inl (h ρ w ha hw), hw.new _, _, rfl, rfl⟩
theorem does_allocs {t T} {l : List Value} (hz : ∀ w, (zeroValue T).run P w = .ok (.agg l.toArray) w) : Does P w0 (.mk (some t) (.alloc T) ty pos aft none) e F (fun v2 F2 => ∃ b, v2 = .pointer (some ⟨b, 0, none⟩) ∧ F2 = Blk b (.cells l.toArray T (0, 0)) :: F) :=
  does_new (v := fun b => .pointer (some ⟨b, 0, none⟩)) (fun ρ w ha hw => by
    simp only [execOp, Instr.alloc, newVar, newRow, newObj]
    simp [hz, Sem.run, go_sem])
theorem does_alloc {t T v} (hz : ∀ w, (zeroValue T).run P w = .ok v w) (hs : scalar v = true) : Does P w0 (.mk (some t) (.alloc T) ty pos aft none) e F (fun v2 F2 => ∃ b, v2 = .pointer (some ⟨b, 0, none⟩) ∧ F2 = Blk b (.cells [v].toArray T (0, 0)) :: F) :=
  does_new (v := fun b => .pointer (some ⟨b, 0, none⟩)) (fun ρ w ha hw => by
    have hcells : v.cells = #[v] := by cases v <;> simp_all [Value.cells, scalar]
    simp only [execOp, Instr.alloc, newVar, newRow, newObj]
    simp [hz, Sem.run, go_sem]
    exact congrArg (fun c => w.alloc (.cells c T)) hcells)
theorem does_box {t x T v} (hx : evO e x = some v) (hs : scalar v = true) : Does P w0 (.mk (some t) (.box T x) ty pos aft none) e F (fun v2 F2 => ∃ b, v2 = .pointer (some ⟨b, 0, none⟩) ∧ F2 = Blk b (.cells [v].toArray T (0, 0)) :: F) :=
  does_new (v := fun b => .pointer (some ⟨b, 0, none⟩)) (fun ρ w ha hw => by
    have hcells : v.cells = #[v] := by cases v <;> simp_all [Value.cells, scalar]
    simp only [execOp, ha _ _ hx, Instr.box, newVar, newRow, hcells, newObj]
    rfl)
theorem does_boxs {t x T} {l : List Value} (hx : evO e x = some (.agg l.toArray)) : Does P w0 (.mk (some t) (.box T x) ty pos aft none) e F (fun v2 F2 => ∃ b, v2 = .pointer (some ⟨b, 0, none⟩) ∧ F2 = Blk b (.cells l.toArray T (0, 0)) :: F) :=
  does_new (v := fun b => .pointer (some ⟨b, 0, none⟩)) (fun ρ w ha hw => by
    simp only [execOp, ha _ _ hx, Instr.box, newVar, newRow, Value.cells, newObj]
    rfl)
end
end Go.Proofs.Ytecibldbnekgbaa.Fw
