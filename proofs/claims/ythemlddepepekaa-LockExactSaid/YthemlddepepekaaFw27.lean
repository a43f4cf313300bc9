import Derived.Test.YthemlddepepekaaFw26
namespace Go.Proofs.Ythemlddepepekaa.Fw
open Go
set_option linter.unusedVariables false
set_option linter.unusedSimpArgs false
theorem run_equal_func_nil {P : Program} {w : World} {t : TypeId} {ps rs vd} {f : Fn} {a b : Array Value} (h : P.underlying t = some (.func ps rs vd)) : (Op.equal t (.func f a b) .nilFunc).run P w = .ok false w := by
  have key : ∀ d, (Op.equalIn (d + 1) t (.func f a b) .nilFunc).run P w = .ok false w := fun d => by simp [Op.equalIn, run_underlying h]
  exact key 9999
section
variable {P : Program} {f : Fr} {w0 : World} {K : Post} {n : Nat} {d : List Deferred} {ops : Array Oper} {rest : List Oper} {k : List Item} {e : Env} {F : List Atom}
variable {ty : TypeId} {pos : String} {aft : Array Edge}
theorem l_makeFunc {t g} {capt : Array Operand} {vs : List Value} (ht : Nat.ble (t + 1) n = true) (hx : evL e capt.toList = some vs) (hk : GL P f w0 K n d ops rest k ((t, .func g #[] vs.toArray) :: e) F) :
    GL P f w0 K n d ops (.mk (some t) (.makeFunc g #[] capt) ty pos aft none :: rest) k e F := by
  refine l_val ht (fun ρ w ha hw => ?_) hk
  have hargs : capt.map ρ = vs.toArray := by
    apply Array.toList_inj.1
    simp only [Array.toList_map]
    have key : ∀ (xs : List Operand) (vs : List Value), evL e xs = some vs → xs.map ρ = vs := by
      intro xs
      induction xs with
      | nil => intro vs h; simp [evL] at h; simp [h]
      | cons x xs ih =>
        intro vs h
        simp only [evL] at h
        split at h
        · cases h
        · rename_i v hv
          split at h
          · cases h
          · rename_i vs' hvs
            cases h
            simp [ha _ _ hv, ih _ hvs]
    exact key _ _ hx
  simp only [execOp, Instr.makeFunc, hargs]
  simp [go_sem]
theorem l_eqfn {t x y T T2 ps rs vd g} {a b : Array Value} (ht : Nat.ble (t + 1) n = true) (hT : P.underlying T = some (.func ps rs vd)) (hx : evO e x = some (.func g a b)) (hy : evO e y = some .nilFunc)
    (hk : GL P f w0 K n d ops rest k ((t, .bool false) :: e) F) : GL P f w0 K n d ops (.mk (some t) (.binOp .eql T x y T2) ty pos aft none :: rest) k e F :=
  l_bin ht hx hy (fun w => by simp [eqGuard, go_sem]) (fun w => by simp only [binOp]; simp [run_equal_func_nil hT, go_sem]) hk
/-- A loop's record under a short name. -/
def IsRec (RC : LoopState → Option Code → Atom) (l : Nat) (fn : FuncId) (n : Nat) (e : Env) (ps : List Tmp) (assign body : Code) (r : Nat) : Prop := RC = fun st p => Rec l st p fn n e ps assign body r
theorem g_rangeR {g : Operand} {ps : List Tmp} {assign body : Code} {gf : FuncId} {lb : List Value} (hro : f.ro = none) (hcall : ∀ args w, (callFunc gf args).run P w = .ok (.enter gf args) w) (hx : evO e g = some (.func (.func gf) #[] lb.toArray))
    (h : ∀ r l RC, IsRec RC l f.fn n e ps assign body r → CallK P gf (.func (.yield l) #[] #[] :: lb) w0 (RC .ready none :: Dfr r :: F) fun en F2 => (∃ v, en = .returned v) ∧ ∃ st pend F3, st ≠ .busy ∧ (∀ w, Holds w0 F2 w → Holds w0 (RC st pend :: F3) w) ∧ G P f w0 K n (mark r :: d) (jumpK k pend) e F3) :
    G P f w0 K n d (.code (.rangeFunc g ps.toArray assign body) :: k) e F := g_range hro hcall hx fun r l => h r l _ rfl
theorem c_roundR {RC l fn ps assign body r vs} {R : Value → List Atom → Prop} (hRC : IsRec RC l fn n e ps assign body r) (hl : ps.length = vs.length) (hp : (ps.all (fun p => Nat.ble (p + 1) n) = true))
    (h : G P ⟨fn, some l⟩ w0 (fun en F2 => ∃ v, en = .returned v ∧ R v F2) n [] [.code assign, .beginRound, .code body] (putL ps vs e) (RC .ready none :: F)) : RoundK P l vs w0 (RC .ready none :: F) R := by
  unfold IsRec at hRC
  subst hRC
  exact c_round hl hp h
theorem g_beginR {RC fn l ps assign body r p} {e0 : Env} {m : Nat} (hRC : IsRec RC l fn m e0 ps assign body r) (h : G P ⟨fn, some l⟩ w0 K n d k e (RC .busy p :: F)) : G P ⟨fn, some l⟩ w0 K n d (.beginRound :: k) e (RC .ready p :: F) := by
  unfold IsRec at hRC
  subst hRC
  exact g_beginRound h
theorem g_roundE {RC fn l ps assign body r p} {e0 : Env} {m : Nat} {F1 : List Atom} (hRC : IsRec RC l fn m e0 ps assign body r) (hF : ∀ w, Holds w0 F1 w → Holds w0 (RC .busy p :: F) w) (h : K (.returned (.bool true)) (RC .ready none :: F)) : G P ⟨fn, some l⟩ w0 K n d [] e F1 := by
  unfold IsRec at hRC
  subst hRC
  exact g_heap hF (g_round_end h)
theorem g_roundR {RC fn l ps assign body r p} {e0 : Env} {m : Nat} {F1 : List Atom} (hRC : IsRec RC l fn m e0 ps assign body r) (hF : ∀ w, Holds w0 F1 w → Holds w0 (RC .busy p :: F) w) (h : K (.returned (.bool false)) (RC .done (some .ret) :: F)) : G P ⟨fn, some l⟩ w0 K n d (.code .ret :: k) e F1 := by
  unfold IsRec at hRC
  subst hRC
  exact g_heap hF (g_round_ret h)
theorem g_roundX {RC fn l ps assign body r p id} {e0 : Env} {m : Nat} {F1 : List Atom} (hRC : IsRec RC l fn m e0 ps assign body r) (hk : exitTo id k = none) (hF : ∀ w, Holds w0 F1 w → Holds w0 (RC .busy p :: F) w) (h : K (.returned (.bool false)) (RC .done (some (.exit id)) :: F)) : G P ⟨fn, some l⟩ w0 K n d (.code (.exit id) :: k) e F1 := by
  unfold IsRec at hRC
  subst hRC
  exact g_heap hF (g_round_exit hk h)
end
end Go.Proofs.Ythemlddepepekaa.Fw
