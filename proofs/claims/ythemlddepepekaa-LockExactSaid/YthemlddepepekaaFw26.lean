import Derived.Test.YthemlddepepekaaFw25
import Derived.RangeFuncRecord
namespace Go.Proofs.Ythemlddepepekaa.Fw
open Go
set_option linter.unusedVariables false
set_option linter.unusedSimpArgs false

/- A range over a function: the loop's record, its rounds, the marks that it leaves among the deferred calls. -/
/-- The record; what is known of the slots that the rounds begin with. -/
def Rec (l : Nat) (st : LoopState) (pend : Option Code) (fn : FuncId) (n : Nat) (e : Env) (ps : List Tmp) (assign body : Code) (r : Nat) : Atom where
  fp b := b = l
  ok h := ∃ tmps : Array Value, tmps.size = n ∧ (∀ t v, lk e t = some v → tmps[t]? = some v) ∧ h l = some (.loop { state := st, pending := pend, fn, tmps, params := ps.toArray, assign, body, defers := r })
  loc h h' hh ho := let ⟨tmps, h1, h2, h3⟩ := ho; ⟨tmps, h1, h2, by rw [← hh l rfl]; exact h3⟩
def mark (r : Nat) : Deferred := { target := .collected r, args := #[] }
/-- The block for the rounds' deferred calls: none. -/
def Dfr (r : Nat) : Atom := Blk r (.deferred (some []))

theorem holds_put {w0 : World} {A A' : Atom} {F : List Atom} {w : World} {l : Nat} {o : Obj} (h : Holds w0 (A :: F) w) (hfp : ∀ b, A.fp b ↔ b = l) (hfp' : ∀ b, A'.fp b → b = l) (hok : A'.ok (hp (w.putObj l o))) : Holds w0 (A' :: F) (w.putObj l o) := by
  have hlt : l < w.heap.size := h.lt A (List.mem_cons_self ..) l ((hfp l).2 rfl)
  refine h.turn rfl rfl rfl (by simp) (fun b hb hn => World.putObj_heap_other fun e => hn ((hfp b).2 e)) hok (fun b hb => .inl ((hfp b).2 (hfp' b hb))) fun b hb => ?_
  rw [hfp' b hb, World.putObj_size]; exact hlt
theorem Rec.turn {w0 : World} {F : List Atom} {w : World} {l st p fn n e ps assign body r} (h : Holds w0 (Rec l st p fn n e ps assign body r :: F) w) : ∃ tmps : Array Value, tmps.size = n ∧ (∀ t v, lk e t = some v → tmps[t]? = some v) ∧ w.heap[l]? = some (.loop { state := st, pending := p, fn, tmps, params := ps.toArray, assign, body, defers := r }) ∧
    ∀ st' p', Holds w0 (Rec l st' p' fn n e ps assign body r :: F) (w.putObj l (.loop { state := st', pending := p', fn, tmps, params := ps.toArray, assign, body, defers := r })) := by
  obtain ⟨tmps, h1, h2, h3⟩ := h.ok _ (List.mem_cons_self ..)
  have hlt : l < w.heap.size := h.lt _ (List.mem_cons_self ..) l rfl
  exact ⟨tmps, h1, h2, h3, fun st' p' => holds_put h (fun b => Iff.rfl) (fun b hb => hb) ⟨tmps, h1, h2, World.putObj_heap_same hlt⟩⟩

/-- What a round does: told of the memory before it, of the answer and the memory behind it. -/
def RoundK (P : Program) (l : Nat) (args : List Value) (w0 : World) (F : List Atom) (R : Value → List Atom → Prop) : Prop :=
  ∀ w, Holds w0 F w → ∃ fn tmps assign body, (Instr.yield l args.toArray).run P w = .ok (.round l fn tmps assign body) w ∧
    RoundIn Fence.wide 0 P l fn tmps assign body w fun e w' => ∃ v F2, e = .returned v ∧ R v F2 ∧ Holds w0 F2 w'
theorem RoundK.mono {P l args w0 F} {R R' : Value → List Atom → Prop} (h : RoundK P l args w0 F R) (hk : ∀ v F', R v F' → R' v F') : RoundK P l args w0 F R' :=
  fun w hw => let ⟨fn, tmps, assign, body, h1, h2⟩ := h w hw; ⟨fn, tmps, assign, body, h1, h2.mono fun e w' ⟨v, F2, a, b, c⟩ => ⟨v, F2, a, hk _ _ b, c⟩⟩
theorem RoundK.heap {P l args w0 F F2} {R : Value → List Atom → Prop} (h : RoundK P l args w0 F2 R) (hF : ∀ w, Holds w0 F w → Holds w0 F2 w) : RoundK P l args w0 F R := fun w hw => h w (hF w hw)

def putL : List Tmp → List Value → Env → Env
  | p :: ps, v :: vs, e => putL ps vs ((p, v) :: e)
  | _, _, e => e
theorem putL_ok {n : Nat} : ∀ {ps : List Tmp} {vs : List Value} {e : Env} {tmps : Array Value}, ps.length = vs.length → (ps.all (fun p => Nat.ble (p + 1) n) = true) → tmps.size = n → (∀ t v, lk e t = some v → tmps[t]? = some v) →
    (((ps.zip vs).foldl (fun tmps (t, a) => tmps.setIfInBounds t a) tmps : Array Value).size = n ∧ ∀ t v, lk (putL ps vs e) t = some v → ((ps.zip vs).foldl (fun tmps (t, a) => tmps.setIfInBounds t a) tmps : Array Value)[t]? = some v)
  | [], [], e, tmps, _, _, h1, h2 => ⟨h1, h2⟩
  | [], _ :: _, _, _, h, _, _, _ => by simp at h
  | _ :: _, [], _, _, h, _, _, _ => by simp at h
  | p :: ps, v :: vs, e, tmps, hl, hp, h1, h2 => by
    simp only [List.all_cons, Bool.and_eq_true] at hp
    have hk : Knows n [] e { tmps := tmps, defers := [] } := ⟨h1, rfl, h2⟩
    have hk2 := hk.put p v hp.1
    simp only [List.zip_cons_cons, List.foldl_cons, putL]
    exact putL_ok (by simpa using hl) hp.2 hk2.size hk2.val

section
variable {P : Program} {f : Fr} {w0 : World} {K : Post} {n : Nat} {d : List Deferred} {ops : Array Oper} {rest : List Oper} {k : List Item} {e : Env} {F : List Atom}
variable {ty : TypeId} {pos : String} {aft : Array Edge}

/-- A call of yield. -/
theorem l_yield {t g l} {args : Array Operand} {tys : Array TypeId} {vs : List Value} {R : Value → List Atom → Prop} (ht : Nat.ble (t + 1) n = true) (hg : evO e g = some (.func (.yield l) #[] #[])) (hx : evL e args.toList = some vs)
    (hr : RoundK P l vs w0 F R) (hk : ∀ v F', R v F' → GL P f w0 K n d ops rest k ((t, v) :: e) F') :
    GL P f w0 K n d ops (.mk (some t) (.call ⟨.value g, args, tys⟩) ty pos aft none :: rest) k e F := by
  intro a w ha hw
  have hargs : args.map a.eval = vs.toArray := by
    have := ha.evs hx
    apply Array.toList_inj.1
    simpa using this
  obtain ⟨fn, tmps, assign, body, hy, hR⟩ := hr w hw
  have hrun : (execOp a.eval (.mk (some t) (.call ⟨.value g, args, tys⟩) ty pos aft none)).run P w = .ok (.round l fn tmps assign body) w := by
    simp only [execOp, resolve, hargs, ha.ev hg, Deferred.ofValue]
    simp [invoke, hy, go_sem]
  show wpL _ _ _ _ _ _
  simp only [wpL, Region.wanted, if_true, opR, hrun]
  refine hR.mono ?_
  rintro en w' ⟨v, F2, rfl, h1, h2⟩
  exact ⟨v, rfl, hk v F2 h1 _ _ (ha.put t v ht) h2⟩

/-- A round, out of its walk. -/
theorem c_round {l fn ps assign body r vs} {R : Value → List Atom → Prop} (hl : ps.length = vs.length) (hp : (ps.all (fun p => Nat.ble (p + 1) n) = true))
    (h : G P ⟨fn, some l⟩ w0 (fun en F2 => ∃ v, en = .returned v ∧ R v F2) n [] [.code assign, .beginRound, .code body] (putL ps vs e) (Rec l .ready none fn n e ps assign body r :: F)) : RoundK P l vs w0 (Rec l .ready none fn n e ps assign body r :: F) R := by
  intro w hw
  obtain ⟨tmps, h1, h2, h3, _⟩ := Rec.turn hw
  refine ⟨fn, ((ps.zip vs).foldl (fun tmps (t, a) => tmps.setIfInBounds t a) tmps : Array Value), assign, body, ?_, trivial, fun c cs _ => ?_⟩
  · refine (run_yield h3 (by simp [hl])).trans ?_
    simp only [List.zip_toArray, List.foldl_toArray]
  · have hk := putL_ok hl hp h1 h2
    have h4 := h { tmps := ((ps.zip vs).foldl (fun tmps (t, a) => tmps.setIfInBounds t a) tmps : Array Value), defers := [] } w ⟨hk.1, rfl, hk.2⟩ hw
    unfold GoesOn Ends at h4
    obtain ⟨v, w', ⟨F2, ⟨v', e1, h5⟩, h6⟩, hs⟩ := h4 c cs
    cases e1
    exact ⟨.returned v, w', ⟨v, F2, rfl, h5, h6⟩, stepsIn_wide.2 hs⟩

theorem g_beginRound {fn l ps assign body r p} {e0 : Env} {m : Nat} (h : G P ⟨fn, some l⟩ w0 K n d k e (Rec l .busy p fn m e0 ps assign body r :: F)) : G P ⟨fn, some l⟩ w0 K n d (.beginRound :: k) e (Rec l .ready p fn m e0 ps assign body r :: F) := by
  intro a w ha hw
  obtain ⟨tmps, h1, h2, h3, h4⟩ := Rec.turn hw
  exact Ends.steps (fun cs => .one (stepR_beginRound rfl (run_beginRound h3 rfl))) (h a _ ha (h4 .busy p))
theorem g_round_end {fn l ps assign body r p} {e0 : Env} {m : Nat} (h : K (.returned (.bool true)) (Rec l .ready none fn m e0 ps assign body r :: F)) : G P ⟨fn, some l⟩ w0 K n d [] e (Rec l .busy p fn m e0 ps assign body r :: F) := by
  intro a w ha hw
  obtain ⟨tmps, h1, h2, h3, h4⟩ := Rec.turn hw
  unfold GoesOn Ends
  exact fun c cs => ⟨.bool true, _, ⟨_, h, h4 .ready none⟩, .one (stepR_round_end rfl rfl (run_endRound none h3))⟩
theorem g_round_ret {fn l ps assign body r p} {e0 : Env} {m : Nat} (h : K (.returned (.bool false)) (Rec l .done (some .ret) fn m e0 ps assign body r :: F)) : G P ⟨fn, some l⟩ w0 K n d (.code .ret :: k) e (Rec l .busy p fn m e0 ps assign body r :: F) := by
  intro a w ha hw
  obtain ⟨tmps, h1, h2, h3, h4⟩ := Rec.turn hw
  unfold GoesOn Ends
  exact fun c cs => ⟨.bool false, _, ⟨_, h, h4 .done (some .ret)⟩, .one (stepR_round_ret rfl rfl (run_endRound (some .ret) h3))⟩
theorem g_round_exit {fn l ps assign body r p id} {e0 : Env} {m : Nat} (hk : exitTo id k = none) (h : K (.returned (.bool false)) (Rec l .done (some (.exit id)) fn m e0 ps assign body r :: F)) : G P ⟨fn, some l⟩ w0 K n d (.code (.exit id) :: k) e (Rec l .busy p fn m e0 ps assign body r :: F) := by
  intro a w ha hw
  obtain ⟨tmps, h1, h2, h3, h4⟩ := Rec.turn hw
  unfold GoesOn Ends
  exact fun c cs => ⟨.bool false, _, ⟨_, h, h4 .done (some (.exit id))⟩, .one (stepR_round_exit rfl rfl hk (run_endRound (some (.exit id)) h3))⟩

/-- What is done behind the loop: on, or the jump that a round has left. -/
def jumpK (k : List Item) : Option Code → List Item
  | none => k
  | some c => .code c :: k
/-- The loop. -/
theorem g_range {g : Operand} {ps : List Tmp} {assign body : Code} {gf : FuncId} {lb : List Value} (hro : f.ro = none) (hcall : ∀ args w, (callFunc gf args).run P w = .ok (.enter gf args) w) (hx : evO e g = some (.func (.func gf) #[] lb.toArray))
    (h : ∀ r l, CallK P gf (.func (.yield l) #[] #[] :: lb) w0 (Rec l .ready none f.fn n e ps assign body r :: Dfr r :: F) fun en F2 => (∃ v, en = .returned v) ∧ ∃ st pend F3, st ≠ .busy ∧ (∀ w, Holds w0 F2 w → Holds w0 (Rec l st pend f.fn n e ps assign body r :: F3) w) ∧ G P f w0 K n (mark r :: d) (jumpK k pend) e F3) :
    G P f w0 K n d (.code (.rangeFunc g ps.toArray assign body) :: k) e F := by
  intro a w ha hw
  have hw1 := hw.new (.deferred (some []))
  have hw2 := hw1.new (.loop { state := .ready, pending := none, fn := f.fn, tmps := a.tmps, params := ps.toArray, assign, body, defers := w.heap.size })
  have hsz : ({ w with heap := w.heap.push (.deferred (some [])) } : World).heap.size = w.heap.size + 1 := by simp
  rw [hsz] at hw2
  have hw3 : Holds w0 (Rec (w.heap.size + 1) .ready none f.fn n e ps assign body w.heap.size :: Dfr w.heap.size :: F) _ := hw2.as (fun ho => ⟨a.tmps, ha.size, ha.val, ho⟩) (fun b hb => hb)
  have hc := h w.heap.size (w.heap.size + 1) _ hw3
  unfold GoesOn Ends
  simp only [hro]
  intro cs
  have he := run_enterLoop_outer (P := P) (w := w) f.fn a.tmps ps.toArray assign body
  rw [← hro] at he
  have hres : (resolve a.eval (rangeCall g (w.heap.size + 1)) 0).run P ((w.alloc (.deferred (some []))).alloc (.loop { state := .ready, pending := none, fn := f.fn, tmps := a.tmps, params := ps.toArray, assign, body, defers := w.heap.size })) = .ok { target := .fn (.func gf) lb.toArray, args := #[.func (.yield (w.heap.size + 1)) #[] #[]] } ((w.alloc (.deferred (some []))).alloc (.loop { state := .ready, pending := none, fn := f.fn, tmps := a.tmps, params := ps.toArray, assign, body, defers := w.heap.size })) := by
    simp only [rangeCall, resolve, ha.ev hx, Deferred.ofValue]
    simp [go_sem, Act.eval]
  have hinv : (invoke (.fn (.func gf) lb.toArray) #[.func (.yield (w.heap.size + 1)) #[] #[]]).run P ((w.alloc (.deferred (some []))).alloc (.loop { state := .ready, pending := none, fn := f.fn, tmps := a.tmps, params := ps.toArray, assign, body, defers := w.heap.size })) = .ok (.enter gf (.func (.yield (w.heap.size + 1)) #[] #[] :: lb).toArray) ((w.alloc (.deferred (some []))).alloc (.loop { state := .ready, pending := none, fn := f.fn, tmps := a.tmps, params := ps.toArray, assign, body, defers := w.heap.size })) := by
    simp only [invoke]
    rw [hcall]
    simp
  have henter := stepR_rangeFunc (P := P) (b := frm f) (a := a) (k := k) (cs := cs) (w := w) he hres hinv
  obtain ⟨en, w3, fr, ⟨F2, ⟨⟨v, rfl⟩, st, pend, F3, hst, hF3, hg⟩, hw4⟩, hsteps, hfn, hleave⟩ := hc ((frm f).atR { a with defers := [mark w.heap.size] ++ a.defers } (.inRangeFunc (w.heap.size + 1) :: k) :: cs)
  obtain ⟨tmps, t1, t2, t3, t4⟩ := Rec.turn (hF3 _ hw4)
  have hend := run_endLoop (P := P) t3 hst
  have hg2 := hg { a with defers := mark w.heap.size :: a.defers } _ ⟨ha.size, by simp [ha.dfr], ha.val⟩ (t4 .exhausted pend).tail
  unfold GoesOn Ends at hg2
  simp only [hro] at hg2
  obtain ⟨en, w5, fr5, r5, c5, x5⟩ := hg2 cs
  have hjk : (pend.map Item.code).toList ++ k = jumpK k pend := by cases pend <;> rfl
  have hs2 := stepR_endRangeFunc (P := P) (b := frm f) (a := { a with defers := [mark w.heap.size] ++ a.defers }) (k := k) (cs := cs) hend
  rw [hjk] at hs2
  have hs1 := step_leave_returned (c := (frm f).atR { a with defers := [mark w.heap.size] ++ a.defers } (.inRangeFunc (w.heap.size + 1) :: k)) (cs := cs) hleave
  rw [finish_atR_inRangeFunc] at hs1
  exact ⟨en, w5, fr5, r5, .of_steps (Steps.head henter (Steps.trans hsteps (Steps.head hs1 (Steps.one hs2)))) c5, x5⟩

/-- A function's end, behind loops over functions. -/
theorem leave_marks : ∀ (rs : List Nat) {F : List Atom} {w : World} {a : Act} {todo : List Item} (cs : List Frame), a.defers = rs.map mark → Holds w0 (rs.map Dfr ++ F) w →
    ∃ w', Holds w0 F w' ∧ Steps P (lone { (frm f).atR a todo with mode := .returning } cs w) (lone { (frm f).atR { a with defers := [] } todo with mode := .returning } cs w')
  | [], F, w, a, todo, cs, hd, hw => ⟨w, hw, by
      have : a = { a with defers := [] } := by cases a; simp_all
      rw [← this]; exact .refl _ _⟩
  | r :: rs, F, w, a, todo, cs, hd, hw => by
    have h1 : w.heap[r]? = some (.deferred (some [])) := hw.ok _ (List.mem_cons_self ..)
    have h2 : Holds w0 (rs.map Dfr ++ F) (w.putObj r (.deferred none)) := (holds_put (A' := Blk r (.deferred none)) hw (fun b => Iff.rfl) (fun b hb => hb) (World.putObj_heap_same (hw.lt _ (List.mem_cons_self ..) r rfl))).tail
    obtain ⟨w', h3, h4⟩ := leave_marks rs (a := { a with defers := rs.map mark }) (todo := todo) cs rfl h2
    refine ⟨w', h3, .head (step_collected (d := mark r) (r := r) (ds := rs.map mark) (calls := []) (by simp) ?_ rfl (run_takeDeferred h1)) h4⟩
    simp only [Frame.atR, hd, List.map_cons]
theorem g_ret_m {fn vs} {rv : List ResultVar} {F1 : List Atom} (rs : List Nat) (hro : f.ro = none) (hf : P.funcs[f.fn]? = some fn) (hF : ∀ w, Holds w0 F1 w → Holds w0 (rs.map Dfr ++ F) w) (hr : fn.results = rv.toArray) (hv : ResV P w0 e F rv vs) (hK : K (.returned (resVal vs)) F) : G P f w0 K n (rs.map mark) (.code .ret :: k) e F1 := by
  intro a w ha hw
  unfold GoesOn Ends
  simp only [hro]
  intro cs
  obtain ⟨w', h1, h2⟩ := leave_marks (P := P) (f := f) rs (todo := .code .ret :: k) cs ha.dfr (hF w hw)
  exact ⟨.returned (resVal vs), w', _, ⟨F, hK, h1⟩, Steps.head (stepR_ret hro) h2, rfl, rfl, rfl, rfl, fn, hf, hv.results hr ha.val h1⟩
end
end Go.Proofs.Ythemlddepepekaa.Fw
