/- Isa: Find, whatever the text, over the table. -/
import Derived.Test.YtdoighcgfbnigaaDoorIsaTab
import Derived.Deep.LoopGhost
namespace Go.Proofs.YtdoighcgfbnigaaDoor.Isa
set_option linter.unusedVariables false
set_option linter.unusedSimpArgs false
open Go.RowKit Go.Proofs.YtdoighcgfbnigaaDoorW.PrintWords Go.Proofs.YtdoighcgfbnigaaDoorW.PrintLast Go.Proofs.YtdoighcgfbnigaaDoorW.PrintMore

/-- The first operation of this name, the last d of them looked at. -/
def findFrom (l : List UInt8) : Nat → Int × Bool
  | 0 => (0, false)
  | d + 1 => if names.getD (30 - d) [] = l then (((30 - d : Nat) : Int), true) else findFrom l d

theorem ret_f {p : Int × Bool} {a : Int} {b : Bool} (h : p = (a, b)) : Ending.returned (.tuple #[.int .i64 a, .bool b]) = Ending.returned (.tuple #[.int .i64 p.1, .bool p.2]) := by rw [h]

set_option maxHeartbeats 800000 in
theorem find_any (s : ByteArray) (w : World) (ht : Tab w) :
    Calls Tryd.prog 17 #[.string s] w fun e w' => e = .returned (.tuple #[.int .i64 (findFrom s.data.toList 30).1, .bool (findFrom s.data.toList 30).2]) ∧ Drawn0 w w' := by
  have HT := Aside0.mk ht
  clear ht
  go_enter Tryd.func17, Tryd.ntmps17
  go_wp2
  go_loopw [4] (fun i wr => ∃ k : Nat, 1 ≤ k ∧ k ≤ 31 ∧ i = .int .i64 k ∧ Aside0 (findFrom s.data.toList 30 = findFrom s.data.toList (31 - k)) ∧ Drawn0 w wr) (fun i _ => (31 - intOf i).toNat)
  case atStart => exact ⟨1, by omega, by omega, rfl, ⟨rfl⟩, Drawn0.refl _⟩
  case round =>
    obtain ⟨k, hk1, hk2, rfl, HK, ⟨nd, rfl⟩⟩ := hrel
    by_cases hk : k < 31
    · have hn := HT.out.nm k hk
      have hlt : decide ((k : Int) < 31) = true := by simp; omega
      by_cases he : names.getD k [] = s.data.toList
      · have HR : Aside0 (findFrom s.data.toList 30 = ((k : Int), true)) := ⟨by
          rw [HK.out, show 31 - k = (30 - k) + 1 by omega, findFrom, show 30 - (30 - k) = k by omega, if_pos he]⟩
        rw [he] at hn
        clear he
        go_wp2
        go_ret2
        exact ⟨ret_f HR.out, by repeat (first | exact Drawn0.refl _ | apply Drawn0.step)⟩
      · have HR : Aside0 (findFrom s.data.toList 30 = findFrom s.data.toList (31 - (k + 1))) := ⟨by
          rw [HK.out, show 31 - k = (30 - k) + 1 by omega, findFrom, show 30 - (30 - k) = k by omega, if_neg he]; congr 1; omega⟩
        obtain ⟨t, ht⟩ : ∃ t : ByteArray, t = ⟨(names.getD k []).toArray⟩ := ⟨_, rfl⟩
        rw [← ht] at hn
        have hne : (t.toList == s.toList) = false := by rw [ht, ByteArray.toList_eq, ByteArray.toList_eq]; simpa using he
        clear he ht
        go_wp2
        go_roundw
        case rel => exact ⟨k + 1, by omega, by omega, by go_num, HR, by repeat (first | exact Drawn0.refl _ | apply Drawn0.step)⟩
        case measure => simp [intOf]; omega
    · have hlt : decide ((k : Int) < 31) = false := by simp; omega
      obtain rfl : k = 31 := by omega
      go_wp2
      go_ret2
      exact ⟨ret_f (HK.out.trans rfl), by repeat (first | exact Drawn0.refl _ | apply Drawn0.step)⟩
end Go.Proofs.YtdoighcgfbnigaaDoor.Isa
