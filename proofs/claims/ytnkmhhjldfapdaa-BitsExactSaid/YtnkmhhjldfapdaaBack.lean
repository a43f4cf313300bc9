import Derived.Test.YtnkmhhjldfapdaaLSum
namespace Go.Proofs.Ytnkmhhjldfapdaa.Fw
open Go Go.Proofs
set_option linter.unusedVariables false
set_option linter.unusedSimpArgs false
set_option maxRecDepth 10000

/-- An item: its kind, its number, its text. -/
abbrev Item := Int × Int × ByteArray
def itV (o : Item) : List Value := [.int .i64 o.1, .int .u64 o.2.1, .string o.2.2]
def ItOk (o : Item) : Prop := -9223372036854775808 ≤ o.1 ∧ o.1 ≤ 9223372036854775807 ∧ 0 ≤ o.2.1 ∧ o.2.1 ≤ 18446744073709551615
def enc (o : Item) : List Int := if pickV o.1 4 = 0 then lowB (o.2.1 % 256) 1 else if pickV o.1 4 = 1 then lowB (o.2.1 % 4294967296) 4 else if pickV o.1 4 = 2 then lowB o.2.1 8 else lowB (o.2.2.size : Int) 4 ++ bytesI o.2.2
theorem enc_0 {o : Item} (h : pickV o.1 4 = 0) : enc o = lowB (o.2.1 % 256) 1 := by unfold enc; rw [if_pos h]
theorem enc_1 {o : Item} (h : pickV o.1 4 = 1) : enc o = lowB (o.2.1 % 4294967296) 4 := by unfold enc; rw [if_neg (by omega), if_pos h]
theorem enc_2 {o : Item} (h : pickV o.1 4 = 2) : enc o = lowB o.2.1 8 := by unfold enc; rw [if_neg (by omega), if_neg (by omega), if_pos h]
theorem enc_3 {o : Item} (h : pickV o.1 4 = 3) : enc o = lowB (o.2.2.size : Int) 4 ++ bytesI o.2.2 := by unfold enc; rw [if_neg (by omega), if_neg (by omega), if_neg (by omega)]
theorem enc_cases (o : Item) : (pickV o.1 4 = 0 ∧ (enc o).length = 1) ∨ (pickV o.1 4 = 1 ∧ (enc o).length = 4) ∨ (pickV o.1 4 = 2 ∧ (enc o).length = 8) ∨ (pickV o.1 4 = 3 ∧ (enc o).length = 4 + o.2.2.size) := by
  have hb := @pickV_bd o.1 4 (by decide)
  rcases (show pickV o.1 4 = 0 ∨ pickV o.1 4 = 1 ∨ pickV o.1 4 = 2 ∨ pickV o.1 4 = 3 by omega) with h | h | h | h
  · exact .inl ⟨h, by rw [enc_0 h, lowB_len]⟩
  · exact .inr (.inl ⟨h, by rw [enc_1 h, lowB_len]⟩)
  · exact .inr (.inr (.inl ⟨h, by rw [enc_2 h, lowB_len]⟩))
  · exact .inr (.inr (.inr ⟨h, by rw [enc_3 h, List.length_append, lowB_len, bytesI_length]⟩))
theorem enc_len (o : Item) : 1 ≤ (enc o).length ∧ (enc o).length ≤ o.2.2.size + 8 := by
  rcases enc_cases o with ⟨_, h⟩ | ⟨_, h⟩ | ⟨_, h⟩ | ⟨_, h⟩ <;> omega
def iat (L : List Item) (k : Nat) : Item := L.getD k (0, 0, ⟨#[]⟩)
def encs (L : List Item) : Nat → List Int
  | 0 => []
  | k + 1 => encs L k ++ enc (iat L k)
def tot (L : List Item) : Nat → Int
  | 0 => 0
  | k + 1 => tot L k + (iat L k).2.2.size + 8
theorem tot_nn (L : List Item) : ∀ k, 0 ≤ tot L k
  | 0 => by simp [tot]
  | k + 1 => by have := tot_nn L k; simp only [tot]; omega
theorem tot_le (L : List Item) {j : Nat} : ∀ {k}, j ≤ k → tot L j ≤ tot L k
  | 0, h => by obtain rfl : j = 0 := by omega
               exact Int.le_refl _
  | k + 1, h => by
    rcases Nat.eq_or_lt_of_le h with rfl | h2
    · exact Int.le_refl _
    · have := tot_le L (j := j) (k := k) (by omega); simp only [tot]; omega
theorem tot_ge (L : List Item) : ∀ k : Nat, (k : Int) ≤ tot L k
  | 0 => by simp [tot]
  | k + 1 => by have := tot_ge L k; simp only [tot]; omega
theorem encs_tot (L : List Item) : ∀ k : Nat, ((encs L k).length : Int) ≤ tot L k
  | 0 => by simp [encs, tot]
  | k + 1 => by
    have h1 := encs_tot L k
    have h2 := enc_len (iat L k)
    simp only [encs, tot, List.length_append]; omega
theorem encs_le (L : List Item) {j : Nat} : ∀ {k}, j ≤ k → (encs L j).length ≤ (encs L k).length
  | 0, h => by obtain rfl : j = 0 := by omega
               exact Nat.le_refl _
  | k + 1, h => by
    rcases Nat.eq_or_lt_of_le h with rfl | h2
    · exact Nat.le_refl _
    · have := encs_le L (j := j) (k := k) (by omega); simp only [encs, List.length_append]; omega
theorem encs_split (L : List Item) (j : Nat) : ∀ k, j ≤ k → ∃ post, encs L k = encs L j ++ post
  | 0, h => by obtain rfl : j = 0 := by omega
               exact ⟨[], by simp⟩
  | k + 1, h => by
    rcases Nat.eq_or_lt_of_le h with rfl | h2
    · exact ⟨[], by simp⟩
    · obtain ⟨post, hp⟩ := encs_split L j k (by omega)
      exact ⟨post ++ enc (iat L k), by simp only [encs]; rw [hp, List.append_assoc]⟩
theorem encs_at (L : List Item) {i k : Nat} (h : i < k) : ∃ post, encs L k = encs L i ++ (enc (iat L i) ++ post) := by
  obtain ⟨post, hp⟩ := encs_split L (i + 1) k h
  exact ⟨post, by rw [hp]; simp only [encs]; rw [List.append_assoc]⟩
theorem encs_snoc_len (L : List Item) (k : Nat) : (encs L (k + 1)).length = (encs L k).length + (enc (iat L k)).length := by simp [encs]
theorem bytesI_bd (s : ByteArray) : ∀ x ∈ bytesI s, 0 ≤ x ∧ x ≤ 255 := by
  intro x hx
  unfold bytesI at hx
  obtain ⟨b, _, rfl⟩ := List.mem_map.1 hx
  have := b.toNat_lt
  omega
theorem enc_bd {o : Item} : ∀ x ∈ enc o, 0 ≤ x ∧ x ≤ 255 := by
  intro x hx
  rcases enc_cases o with ⟨h, _⟩ | ⟨h, _⟩ | ⟨h, _⟩ | ⟨h, _⟩
  · rw [enc_0 h] at hx; exact lowB_byte hx
  · rw [enc_1 h] at hx; exact lowB_byte hx
  · rw [enc_2 h] at hx; exact lowB_byte hx
  · rw [enc_3 h] at hx
    rcases List.mem_append.1 hx with hx | hx
    · exact lowB_byte hx
    · exact bytesI_bd _ _ hx
theorem encs_bd (L : List Item) : ∀ k, ∀ x ∈ encs L k, 0 ≤ x ∧ x ≤ 255
  | 0, x, h => by simp [encs] at h
  | k + 1, x, h => by
    rcases List.mem_append.1 h with h | h
    · exact encs_bd L k x h
    · exact enc_bd x h
theorem encs_u8 (L : List Item) (k : Nat) : U8s (encs L k) := U8s.of (encs_bd L k)
theorem take_u8 {B : List Int} (h : ∀ x ∈ B, 0 ≤ x ∧ x ≤ 255) (k : Nat) : U8s (B.take k) := U8s.of fun x hx => h x (List.mem_of_mem_take hx)
/- What a reader makes of it. -/
theorem numB_low {x : Int} : ∀ {k : Nat} {pre post : List Int}, 0 ≤ x → x < 256 ^ k → numB (pre ++ (lowB x k ++ post)) pre.length k = x
  | 0, pre, post, h0, h1 => by simp at h1; simp only [numB]; omega
  | k + 1, pre, post, h0, h1 => by
    simp only [numB, lowB, List.cons_append]
    have e : (pre ++ x % 256 :: (lowB (x / 256) k ++ post)).getD pre.length 0 = x % 256 := by simp [List.getD_eq_getElem?_getD]
    have ih := numB_low (x := x / 256) (k := k) (pre := pre ++ [x % 256]) (post := post) (by omega) (by rw [Int.pow_succ] at h1; omega)
    rw [List.append_assoc, List.length_append] at ih
    simp only [List.length_cons, List.length_nil, List.cons_append, List.nil_append, Nat.zero_add] at ih
    rw [e, ih]
    omega
theorem rdN_whole {B : List Int} {x : Int} {k : Nat} {pre post : List Int} (hB : B = pre ++ (lowB x k ++ post)) (h0 : 0 ≤ x) (h1 : x < 256 ^ k) : rdN B (pre.length : Int) 0 (k : Int) = (x, (pre.length : Int) + (k : Int), (0 : Int)) := by
  rw [rdN_ok rfl (by rw [hB]; simp only [List.length_append, lowB_len]; omega), hB, Int.toNat_natCast, Int.toNat_natCast, numB_low h0 h1]
theorem rdN_none {B : List Int} {p q k : Int} (h : q = 12 ∨ (q = 0 ∧ (B.length : Int) - p < k)) : rdN B p q k = (0, p, 12) := by
  rcases h with rfl | ⟨rfl, h⟩
  · exact rdN_flt (by decide)
  · exact rdN_short rfl h
theorem pow256_4 : (256 : Int) ^ 4 = 4294967296 := rfl
theorem rdT_whole {B : List Int} {s : ByteArray} {pre post : List Int} (hs : s.size ≤ 2147483647) (hB : B = pre ++ ((lowB (s.size : Int) 4 ++ bytesI s) ++ post)) : rdT B (pre.length : Int) 0 (s.size : Int) = (bytesI s, (pre.length : Int) + ((4 + s.size : Nat) : Int), (0 : Int)) := by
  have hR : rdN B pre.length 0 4 = ((s.size : Int), (pre.length : Int) + 4, 0) := rdN_whole (k := 4) (x := (s.size : Int)) (pre := pre) (post := bytesI s ++ post) (by rw [hB]; simp) (by omega) (by rw [pow256_4]; omega)
  rw [rdT_ok rfl hR rfl (by omega) (by rw [hB]; simp only [List.length_append, lowB_len, bytesI_length]; omega)]
  have e1 : ((pre.length : Int) + 4 + (s.size : Int)).toNat - ((pre.length : Int) + 4).toNat = s.size := by omega
  have e2 : ((pre.length : Int) + 4).toNat = (pre ++ lowB (s.size : Int) 4).length := by rw [List.length_append, lowB_len]; omega
  rw [e1, e2, hB]
  have e3 : pre ++ ((lowB (s.size : Int) 4 ++ bytesI s) ++ post) = (pre ++ lowB (s.size : Int) 4) ++ (bytesI s ++ post) := by simp
  rw [e3, List.drop_left, List.take_append_of_le_length (by rw [bytesI_length]; omega), List.take_of_length_le (by rw [bytesI_length]; omega)]
  refine Prod.ext rfl (Prod.ext ?_ rfl)
  simp only
  omega
theorem rdT_none {B : List Int} {p q : Int} {m : Nat} (h : q = 12 ∨ (q = 0 ∧ (B.length : Int) - p < 4 + m ∧ (4 ≤ (B.length : Int) - p → numB B p.toNat 4 = m))) : rdT B p q m = ([], p, 12) := by
  rcases h with rfl | ⟨rfl, h1, h2⟩
  · exact rdT_flt (by decide)
  · by_cases h4 : 4 ≤ (B.length : Int) - p
    · have hR : rdN B p 0 4 = ((m : Int), p + 4, 0) := by rw [rdN_ok rfl (by omega)]; have := h2 h4; rw [show (4 : Int).toNat = 4 from rfl, this]
      exact rdT_short rfl hR rfl (by omega) (by omega)
    · exact rdT_num rfl (rdN_short rfl (by omega)) (by decide)
theorem str_bytes (s : ByteArray) : strOfNums (bytesI s) = s := by
  unfold strOfNums bytesI
  rw [List.map_map]
  have : ((fun n : Int => UInt8.ofNat n.toNat) ∘ fun b : UInt8 => (b.toNat : Int)) = id := by
    funext b
    simp
  rw [this, List.map_id]
/-- The beginning that is cut off. -/
theorem cut_whole {L : List Item} {N nn i : Nat} (h : i < N) (hn : (encs L (i + 1)).length ≤ nn) : ∃ post, (encs L N).take nn = encs L i ++ (enc (iat L i) ++ post) := by
  obtain ⟨post, hp⟩ := encs_split L (i + 1) N h
  refine ⟨post.take (nn - (encs L (i + 1)).length), ?_⟩
  rw [hp, List.take_append, List.take_of_length_le hn]
  simp only [encs]
  rw [List.append_assoc]
theorem cut_part {L : List Item} {N nn i : Nat} (h : i < N) (h1 : (encs L i).length ≤ nn) (hn : nn < (encs L (i + 1)).length) : (encs L N).take nn = encs L i ++ (enc (iat L i)).take (nn - (encs L i).length) := by
  obtain ⟨post, hp⟩ := encs_at L h
  rw [hp, List.take_append, List.take_of_length_le h1, List.take_append_of_le_length]
  rw [encs_snoc_len] at hn
  omega
theorem cut_len {L : List Item} {N nn : Nat} (hn : nn ≤ (encs L N).length) : ((encs L N).take nn).length = nn := by rw [List.length_take]; omega
/-- Where the reader of the cut stands. -/
def CutI (L : List Item) (nn : Nat) (i : Nat) (fell : Bool) (p q : Int) : Prop := (fell = false ∧ q = 0 ∧ p = (encs L i).length ∧ p ≤ nn) ∨ (fell = true ∧ q = 12 ∧ 0 ≤ p ∧ p ≤ nn ∧ nn < (encs L i).length)
theorem CutI.text {L : List Item} {N nn i : Nat} {fell : Bool} {p q : Int} (h : CutI L nn i fell p q) (hi : i < N) (hn : nn < (encs L N).length) (h3 : pickV (iat L i).1 4 = 3) (hsz : (iat L i).2.2.size ≤ 2147483647) (hf : nn < (encs L (i + 1)).length) : rdT ((encs L N).take nn) p q (iat L i).2.2.size = ([], p, 12) := by
  refine rdT_none ?_
  rw [cut_len (by omega)]
  rcases h with ⟨_, rfl, hp, hpn⟩ | ⟨_, rfl, _⟩
  · right
    have hl := encs_snoc_len L i
    have he := enc_cases (iat L i)
    refine ⟨rfl, by omega, fun h4 => ?_⟩
    rw [cut_part hi (by omega) hf, enc_3 h3, hp, Int.toNat_natCast, List.take_append]
    rw [List.take_of_length_le (by rw [lowB_len]; omega)]
    exact numB_low (by omega) (by rw [pow256_4]; omega)
  · exact .inl rfl
theorem CutI.short {L : List Item} {N nn i : Nat} {fell : Bool} {p q : Int} (h : CutI L nn i fell p q) (hn : nn < (encs L N).length) (hf : nn < (encs L (i + 1)).length) : q = 12 ∨ (q = 0 ∧ (((encs L N).take nn).length : Int) - p < (enc (iat L i)).length) := by
  rw [cut_len (by omega)]
  have hl := encs_snoc_len L i
  rcases h with ⟨_, rfl, hp, hpn⟩ | ⟨_, rfl, _⟩
  · exact .inr ⟨rfl, by omega⟩
  · exact .inl rfl
def endsL (L : List Item) (k : Nat) : List Int := (List.range k).map fun j => ((encs L (j + 1)).length : Int)
theorem endsL_len (L : List Item) (k : Nat) : (endsL L k).length = k := by simp [endsL]
theorem endsL_succ (L : List Item) (k : Nat) : endsL L k ++ [((encs L (k + 1)).length : Int)] = endsL L (k + 1) := by simp [endsL, List.range_succ]
theorem endsL_get {L : List Item} {k i : Nat} (h : i < k) : (endsL L k).getD i 0 = ((encs L (i + 1)).length : Int) := by simp [endsL, List.getD_eq_getElem?_getD, h]
theorem itV_len (L : List Item) : ∀ r ∈ L.map itV, r.length = 3 := by
  intro r hr
  obtain ⟨o, _, rfl⟩ := List.mem_map.1 hr
  rfl
theorem itV_at {L : List Item} {i : Nat} (h : i < L.length) : (L.map itV)[i]? = some (itV (iat L i)) := by simp [iat, h]
theorem it_mem {L : List Item} (h : ∀ o ∈ L, ItOk o) {i : Nat} (hi : i < L.length) : ItOk (iat L i) := by
  have : iat L i = L[i] := by simp [iat, hi]
  rw [this]; exact h _ (List.getElem_mem _)
theorem tot_item {L : List Item} {i N : Nat} (h : i < N) : ((iat L i).2.2.size : Int) + 8 ≤ tot L N := by
  have h1 := tot_le L (j := i + 1) (k := N) h
  have h2 := tot_nn L i
  simp only [tot] at h1
  omega
/- Words as bytes. -/
def packB (W : List Int) : Nat → List Int
  | 0 => []
  | k + 1 => packB W k ++ lowB (W.getD k 0) 4
theorem packB_len (W : List Int) : ∀ k, (packB W k).length = 4 * k
  | 0 => rfl
  | k + 1 => by simp only [packB, List.length_append, lowB_len, packB_len W k]; omega
theorem packB_bd (W : List Int) : ∀ k, ∀ x ∈ packB W k, 0 ≤ x ∧ x ≤ 255
  | 0, x, h => by simp [packB] at h
  | k + 1, x, h => by
    rcases List.mem_append.1 h with h | h
    · exact packB_bd W k x h
    · exact lowB_byte h
theorem packB_split (W : List Int) (j : Nat) : ∀ k, j ≤ k → ∃ post, packB W k = packB W j ++ post
  | 0, h => by obtain rfl : j = 0 := by omega
               exact ⟨[], by simp⟩
  | k + 1, h => by
    rcases Nat.eq_or_lt_of_le h with rfl | h2
    · exact ⟨[], by simp⟩
    · obtain ⟨post, hp⟩ := packB_split W j k (by omega)
      exact ⟨post ++ lowB (W.getD k 0) 4, by simp only [packB]; rw [hp, List.append_assoc]⟩
theorem packB_rd {W : List Int} {n j : Nat} (h : j < n) (h0 : 0 ≤ W.getD j 0) (h1 : W.getD j 0 ≤ 4294967295) : rdN (packB W n) ((4 * j : Nat) : Int) 0 4 = (W.getD j 0, ((4 * j : Nat) : Int) + 4, 0) := by
  obtain ⟨post, hp⟩ := packB_split W (j + 1) n h
  have := rdN_whole (k := 4) (x := W.getD j 0) (pre := packB W j) (post := post) (B := packB W n) (by rw [hp]; simp only [packB]; rw [List.append_assoc]) h0 (by rw [pow256_4]; omega)
  rw [packB_len] at this
  exact this
def W32s (W : List Int) : Prop := ∀ i, 0 ≤ W.getD i 0 ∧ W.getD i 0 ≤ 4294967295
theorem W32s.of {W : List Int} (h : ∀ x ∈ W, 0 ≤ x ∧ x ≤ 4294967295) : W32s W := by
  intro i
  rcases Nat.lt_or_ge i W.length with hi | hi
  · have : W.getD i 0 = W[i] := by simp [hi]
    rw [this]; exact h _ (List.getElem_mem _)
  · have : W.getD i 0 = 0 := by simp [List.getD_eq_getElem?_getD, hi]
    rw [this]; decide
theorem take_snoc {W : List Int} {k : Nat} (h : k < W.length) : W.take k ++ [W.getD k 0] = W.take (k + 1) := by
  rw [List.take_add_one]
  simp [h]

def ItR (w0 : World) (F : List Atom) (a : Option Addr) (n : Nat) (L : List Item) : Prop := L.length = n ∧ (n = 0 ∨ ∃ b o, a = some ⟨b, o, none⟩ ∧ RowAt w0 F b o (L.map itV).flatten)
theorem ItR.ex {w0 : World} {F0 F : List Atom} {a n L} (h : ItR w0 F0 a n L) [e : Ext F0 F] : ItR w0 F a n L := ⟨h.1, h.2.imp id fun ⟨b, o, h1, h2⟩ => ⟨b, o, h1, h2.ex⟩⟩
theorem ItR.row {w0 : World} {F : List Atom} {a n L} (h : ItR w0 F a n L) {i : Nat} (hi : i < n) : ∃ b o, a = some ⟨b, o, none⟩ ∧ RowAt w0 F b o (L.map itV).flatten := h.2.resolve_left (by omega)
end Go.Proofs.Ytnkmhhjldfapdaa.Fw
