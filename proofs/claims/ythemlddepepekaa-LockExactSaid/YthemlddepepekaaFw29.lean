import Derived.Test.YthemlddepepekaaFw28
namespace Go.Proofs.Ythemlddepepekaa.Fw
open Go
set_option linter.unusedVariables false
set_option linter.unusedSimpArgs false
theorem run_enterLoop_nested {P : Program} {w : World} {l₀ : Nat} {r₀ : Loop} (h : w.heap[l₀]? = some (.loop r₀)) (fn : FuncId) (tmps : Array Value) (ps : Array Tmp) (assign body : Code) :
    (Instr.enterLoop fn tmps ps assign body (some l₀)).run P w =
      .ok (w.heap.size, []) (w.alloc (.loop { state := .ready, pending := none, fn, tmps, params := ps, assign, body, defers := r₀.defers })) := by
  unfold Instr.enterLoop
  simp only [Sem.run_bind, run_getLoop h, run_newObj_alloc, Result.andThen, Sem.run_pure]
section
variable {P : Program} {f : Fr} {w0 : World} {K : Post} {n : Nat} {d : List Deferred} {ops : Array Oper} {rest : List Oper} {k : List Item} {e : Env} {F : List Atom}
/-- A range over a function within a round of another one: no mark is left. -/
theorem g_rangeN {g : Operand} {ps : List Tmp} {assign body : Code} {gf : FuncId} {lb : List Value} {RC0 : LoopState → Option Code → Atom} {l0 : Nat} {fn0 : FuncId} {n0 : Nat} {e0 : Env} {ps0 : List Tmp} {as0 bd0 : Code} {r0 : Nat} {st0 : LoopState} {p0 : Option Code}
    (hRC0 : IsRec RC0 l0 fn0 n0 e0 ps0 as0 bd0 r0) (hro : f.ro = some l0) (hmem : RC0 st0 p0 ∈ F) (hcall : ∀ args w, (callFunc gf args).run P w = .ok (.enter gf args) w) (hx : evO e g = some (.func (.func gf) #[] lb.toArray))
    (h : ∀ l RC, IsRec RC l f.fn n e ps assign body r0 → CallK P gf (.func (.yield l) #[] #[] :: lb) w0 (RC .ready none :: F) fun en F2 => (∃ v, en = .returned v) ∧ ∃ st pend F3, st ≠ .busy ∧ (∀ w, Holds w0 F2 w → Holds w0 (RC st pend :: F3) w) ∧ G P f w0 K n d (jumpK k pend) e F3) :
    G P f w0 K n d (.code (.rangeFunc g ps.toArray assign body) :: k) e F := by
  intro a w ha hw
  unfold IsRec at hRC0
  subst hRC0
  obtain ⟨tm0, _, _, h03⟩ := hw.ok _ hmem
  have hw2 := hw.new (.loop { state := .ready, pending := none, fn := f.fn, tmps := a.tmps, params := ps.toArray, assign, body, defers := r0 })
  have hw3 : Holds w0 (Rec w.heap.size .ready none f.fn n e ps assign body r0 :: F) _ := hw2.as (fun ho => ⟨a.tmps, ha.size, ha.val, ho⟩) (fun b hb => hb)
  have hc := h w.heap.size _ rfl _ hw3
  unfold GoesOn Ends
  simp only [hro]
  intro c cs
  have he := run_enterLoop_nested (P := P) (w := w) h03 f.fn a.tmps ps.toArray assign body
  rw [← hro] at he
  have hres : (resolve a.eval (rangeCall g w.heap.size) 0).run P (w.alloc (.loop { state := .ready, pending := none, fn := f.fn, tmps := a.tmps, params := ps.toArray, assign, body, defers := r0 })) = .ok { target := .fn (.func gf) lb.toArray, args := #[.func (.yield w.heap.size) #[] #[]] } (w.alloc (.loop { state := .ready, pending := none, fn := f.fn, tmps := a.tmps, params := ps.toArray, assign, body, defers := r0 })) := by
    simp only [rangeCall, resolve, ha.ev hx, Deferred.ofValue]
    simp [go_sem, Act.eval]
  have hinv : (invoke (.fn (.func gf) lb.toArray) #[.func (.yield w.heap.size) #[] #[]]).run P (w.alloc (.loop { state := .ready, pending := none, fn := f.fn, tmps := a.tmps, params := ps.toArray, assign, body, defers := r0 })) = .ok (.enter gf (.func (.yield w.heap.size) #[] #[] :: lb).toArray) (w.alloc (.loop { state := .ready, pending := none, fn := f.fn, tmps := a.tmps, params := ps.toArray, assign, body, defers := r0 })) := by
    simp only [invoke]
    rw [hcall]
    simp
  have henter := stepR_rangeFunc (P := P) (b := frm f) (a := a) (k := k) (cs := c :: cs) (w := w) he hres hinv
  obtain ⟨en, w3, fr, ⟨F2, ⟨⟨v, rfl⟩, st, pend, F3, hst, hF3, hg⟩, hw4⟩, hsteps, hfn, hleave⟩ := hc ((frm f).atR { a with defers := [] ++ a.defers } (.inRangeFunc w.heap.size :: k) :: c :: cs)
  obtain ⟨tmps, t1, t2, t3, t4⟩ := Rec.turn (hF3 _ hw4)
  have hend := run_endLoop (P := P) t3 hst
  have hg2 := hg { a with defers := [] ++ a.defers } _ ⟨ha.size, by simp [ha.dfr], ha.val⟩ (t4 .exhausted pend).tail
  unfold GoesOn Ends at hg2
  simp only [hro] at hg2
  obtain ⟨v5, w5, r5, c5⟩ := hg2 c cs
  have hjk : (pend.map Item.code).toList ++ k = jumpK k pend := by cases pend <;> rfl
  have hs2 := stepR_endRangeFunc (P := P) (b := frm f) (a := { a with defers := [] ++ a.defers }) (k := k) (cs := c :: cs) hend
  rw [hjk] at hs2
  have hs1 := step_leave_returned (c := (frm f).atR { a with defers := [] ++ a.defers } (.inRangeFunc w.heap.size :: k)) (cs := c :: cs) hleave
  rw [finish_atR_inRangeFunc] at hs1
  exact ⟨v5, w5, r5, (Steps.head henter (Steps.trans hsteps (Steps.head hs1 (Steps.one hs2)))).trans c5⟩
end
end Go.Proofs.Ythemlddepepekaa.Fw
