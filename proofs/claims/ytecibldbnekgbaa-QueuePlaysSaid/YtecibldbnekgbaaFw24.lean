import Derived.Test.YtecibldbnekgbaaFw23
namespace Go.Proofs.Ytecibldbnekgbaa.Fw
open Go Go.Lib
set_option linter.unusedVariables false
set_option linter.unusedSimpArgs false
section
variable {P : Program} {w0 : World} {e : Env} {F : List Atom} {ty : TypeId} {pos : String} {aft : Array Edge}
theorem does_storeo {x y g o T u E sz m cap F'} {xs : List Value} (i : Nat) (hS : ∀ w, (sizeOf T).run P w = .ok 1 w) (hx : evO e x = some (.pointer (some ⟨g, o, none⟩))) (hy : evO e y = some u) (hs : scalar u = true)
    (hi : getO F i = some (Own E sz (.slice (some ⟨g, 0, none⟩) m cap) m xs)) (ho : o < xs.length) (hF : setO F i (Own E sz (.slice (some ⟨g, 0, none⟩) m cap) m (xs.set o u)) = some F') : Does P w0 (.mk none (.store T x y) ty pos aft none) e F (fun v2 F2 => v2 = undef ∧ F2 = F') := by
  intro ρ w ha hw
  obtain ⟨l', h1, h2⟩ := perm_set (a' := Own E sz (.slice (some ⟨g, 0, none⟩) m cap) m (xs.set o u)) (getO_eq hi)
  have hF' := (setO_eq hF).2
  subst hF'
  have hcells : u.cells = #[u] := by cases u <;> simp_all [Value.cells, scalar]
  obtain ⟨w', hr, hw'⟩ := run_store_own (P := P) (vs := [u]) (o := o) (hw.perm h1) (by simp [hs]) (by simp; omega)
  rw [spl_one ho] at hw'
  refine .inl ⟨undef, w', _, .inr ⟨?_, rfl⟩, hw'.perm h2.symm, rfl, rfl⟩
  simp only [execOp, ha _ _ hx, ha _ _ hy, Instr.storeAt, Instr.sureAddr, storeVar, hcells]
  simp only [List.size_toArray, List.length_cons, List.length_nil]
  simp [storeCells, go_sem] at hr
  simp [hS, hr, go_sem]
theorem does_storew {x y g j T u E m cap F'} {kd : IntKind} {W : List Int} (i : Nat) (hS : ∀ w, (sizeOf T).run P w = .ok 1 w) (hx : evO e x = some (.pointer (some ⟨g, 0 + j * 1, none⟩))) (hy : evO e y = some (.int kd u))
    (hi : getO F i = some (Own E 1 (.slice (some ⟨g, 0, none⟩) m cap) m (ints kd W))) (hj : j < W.length) (hF : setO F i (Own E 1 (.slice (some ⟨g, 0, none⟩) m cap) m (ints kd (W.set j u))) = some F') : Does P w0 (.mk none (.store T x y) ty pos aft none) e F (fun v2 F2 => v2 = undef ∧ F2 = F') := by
  refine does_storeo (o := 0 + j * 1) i hS hx hy rfl hi (by rw [ints_length]; omega) ?_
  rw [ints_set]
  simpa using hF
end
end Go.Proofs.Ytecibldbnekgbaa.Fw
