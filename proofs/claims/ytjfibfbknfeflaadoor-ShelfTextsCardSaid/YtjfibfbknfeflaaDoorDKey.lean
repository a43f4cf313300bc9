import Derived.Test.YtjfibfbknfeflaaDoorDRef
import Derived.Shelf.Strconv.Itoa3
import Derived.Shelf.Lay
import Derived.Ground.NamesProg
namespace Go.Proofs.YtjfibfbknfeflaaDoor.Fw
open Go Go.Proofs
set_option linter.unusedVariables false
set_option linter.unusedSimpArgs false
set_option maxRecDepth 10000

end Go.Proofs.YtjfibfbknfeflaaDoor.Fw
namespace Go.Proofs
open Go.Shelf Go.Sort
shelf_lay LaysM.n171 Nm 171 at Tryd as Tryd.lays171
theorem Tryd.strconv_Itoa (n : Int) (h0 : -9223372036854775808 ≤ n) (h1 : n ≤ 9223372036854775807) (w : World) (htab : Lib.TabIs Tryd.prog w "internal/strconv.uint64pow10" .u64 Lib.pow10Tab) :
    Calls Tryd.prog 49 #[.int .i64 n] w fun e w' => e = .returned (.string ⟨(Lib.itoa n).toArray⟩) ∧ ∃ k os, w' = grow (w.drewN k) os := Any.strconv_Itoa Tryd.lays171 n h0 h1 w htab
end Go.Proofs
namespace Go.Proofs.YtjfibfbknfeflaaDoor.Fw
open Go Go.Proofs
set_option linter.unusedVariables false
set_option linter.unusedSimpArgs false
theorem dd_num (u : Nat) : (Lib.decDigits u).foldl (fun a (d : UInt8) => a * 10 + (d.toNat - 48)) 0 = u := by
  have hd : ∀ x, x < 10 → (UInt8.ofNat (48 + x)).toNat - 48 = x := fun x hx => by
    rw [UInt8.toNat_ofNat']
    omega
  induction u using Nat.strongRecOn with
  | _ u ih =>
    unfold Lib.decDigits
    split
    · rename_i h
      show 0 * 10 + ((UInt8.ofNat (48 + u)).toNat - 48) = u
      rw [hd u h]
      omega
    · rename_i h
      rw [List.foldl_append, ih (u / 10) (by omega)]
      simp only [List.foldl_cons, List.foldl_nil]
      rw [hd (u % 10) (by omega)]
      omega
theorem dd_big (u : Nat) : ∀ d ∈ Lib.decDigits u, 48 ≤ d.toNat := by
  have hd : ∀ x, x < 10 → 48 ≤ (UInt8.ofNat (48 + x)).toNat := fun x hx => by
    rw [UInt8.toNat_ofNat']
    omega
  induction u using Nat.strongRecOn with
  | _ u ih =>
    unfold Lib.decDigits
    split
    · rename_i h
      intro d hm
      obtain rfl := List.mem_singleton.1 hm
      exact hd u h
    · rename_i h
      intro d hm
      rcases List.mem_append.1 hm with hm | hm
      · exact ih (u / 10) (by omega) d hm
      · obtain rfl := List.mem_singleton.1 hm
        exact hd _ (by omega)
theorem dd_inj {a b : Nat} (h : Lib.decDigits a = Lib.decDigits b) : a = b := by
  rw [← dd_num a, h, dd_num]
theorem itoa_inj {a b : Int} (h : Lib.itoa a = Lib.itoa b) : a = b := by
  have hne : ∀ (u : Nat) (l : List UInt8), Lib.decDigits u ≠ 45 :: l := fun u l e => by
    have := dd_big u 45 (by rw [e]; exact List.mem_cons_self ..)
    exact absurd this (by decide)
  unfold Lib.itoa at h
  split at h <;> split at h
  · have := dd_inj (List.cons.inj h).2
    omega
  · exact absurd h.symm (hne _ _)
  · exact absurd h (hne _ _)
  · have := dd_inj h
    omega
def keyT (n : Int) : ByteArray := ⟨(Lib.itoa n).toArray⟩
theorem keyT_inj (a b : Int) (h : keyT a = keyT b) : a = b := by
  unfold keyT at h
  injection h with h
  exact itoa_inj (by have := congrArg Array.toList h; simpa using this)
theorem Holds.grown {w0 : World} {F : List Atom} {w : World} (h : Holds w0 F w) (k : Nat) (os : Array Obj) : Holds w0 F (Sort.grow (w.drewN k) os) := by
  have hk : ∀ b, b < w.heap.size → hp (Sort.grow (w.drewN k) os) b = hp w b := fun b hb => by
    show (w.heap ++ os)[b]? = w.heap[b]?
    rw [Array.getElem?_append_left hb]
  refine ⟨h.os, h.tape, h.output, fun A hA => A.loc _ _ (fun b hb => (hk b (h.lt A hA b hb)).symm) (h.ok A hA), fun A hA b hb => ?_, h.sep⟩
  have := h.lt A hA b hb
  show b < (w.heap ++ os).size
  rw [Array.size_append]
  omega
/-- The table of powers of ten lies there. -/
def Tab (w0 : World) (F : List Atom) : Prop := ∀ w, Holds w0 F w → Lib.TabIs Tryd.prog w "internal/strconv.uint64pow10" .u64 Lib.pow10Tab
theorem Tab.ex {w0 : World} {F F' : List Atom} (h : Tab w0 F) [e : Ext F F'] : Tab w0 F' := fun w hw => h w (e.on w0 w hw)
theorem Tab.to {w0 : World} {F F' : List Atom} (h : Tab w0 F) (hs : ∀ w, Holds w0 F' w → Holds w0 F w) : Tab w0 F' := fun w hw => h w (hs w hw)
def I64 (n : Int) : Prop := -9223372036854775808 ≤ n ∧ n ≤ 9223372036854775807
theorem itoa_ok (w0 : World) (F : List Atom) (n : Int) (hn : I64 n) (hT : Tab w0 F) : CallK Tryd.prog 49 [.int .i64 n] w0 F (Gives w0 fun v F2 => v = .string (keyT n) ∧ F2 = F) := fun w hw => by
  refine (Tryd.strconv_Itoa n hn.1 hn.2 w (hT w hw)).mono ?_
  rintro e w' ⟨rfl, k, os, rfl⟩
  exact ⟨F, ⟨_, F, rfl, ⟨rfl, rfl⟩, fun _ h => h⟩, hw.grown k os⟩

theorem key_ok (w0 : World) (F : List Atom) (n : Int) (hn : I64 n) (hT : Tab w0 F) :
    CallK Tryd.prog 24 [.int .i64 n] w0 (F) (Gives w0 fun v F2 => v = .string (keyT n) ∧ F2 = F) := by
  refine c_enter Tryd.func24 rfl rfl rfl ?_
  refine g_seq ?_
  refine g_region ?_
  refine l_assign rfl rfl ?_
  refine l_nil ?_
  refine g_seq ?_
  refine g_region ?_
  refine l_move rfl rfl ?_
  refine l_call rfl Tryd.call49 rfl (itoa_ok _ _ n hn hT) ?_; rintro _ _ ⟨rfl, rfl⟩
  refine l_assign rfl rfl ?_
  refine l_nil ?_
  refine g_ret Tryd.func24 rfl (.tmp rfl .nil) ?_
  exact Gives.mki ⟨rfl, rfl⟩
end Go.Proofs.YtjfibfbknfeflaaDoor.Fw
