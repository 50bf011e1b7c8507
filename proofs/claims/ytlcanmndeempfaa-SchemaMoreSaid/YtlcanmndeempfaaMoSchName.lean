import Derived.Test.YtlcanmndeempfaaPMox6
import Derived.Lib.MapLaws
import Derived.Lib.TrimUEq
import Derived.Lib.TrimAscii
namespace Go.Proofs.Ytlcanmndeempfaa.MoSch
open Go.RowKit Go.Proofs.Ytlcanmndeempfaa.PMo Go.Proofs.YtlcanmndeempfaaW.PrintWords Go.Proofs.YtlcanmndeempfaaW.PrintLast
open Go.Lib (decodeL encodeRune encodeRuneZ decodeN decodeL_N decodeL_drop decodeL_width decodeL_ascii encode_decode)
/-! A reading of a text, told by the row of its bytes; and what a name's bytes are. -/
def pl : Nat → List UInt8 → RdS → Option RdS
  | 0, _, s => some s
  | f + 1, l, s => if l = [] then some s else (signP s ((decodeL l).1 : Int)).bind fun s' => pl f (l.drop (decodeL l).2) s'
theorem pl_readF (a : ByteArray) : ∀ (f pos : Nat) (s : RdS), readF a f pos s = pl f (a.data.toList.drop pos) s
  | 0, _, _ => rfl
  | f + 1, pos, s => by
    have hz : a.data.toList.length = a.size := by rw [Array.length_toList]; rfl
    unfold readF pl
    by_cases c : pos < a.size
    · rw [if_pos c, if_neg (fun h => by have := List.drop_eq_nil_iff.1 h; omega), decodeL_drop]
      congr 1
      funext s'
      rw [pl_readF a f, List.drop_drop]
    · rw [if_neg c, if_pos (List.drop_eq_nil_of_le (by omega))]
theorem pl_fuel : ∀ (f g : Nat) (l : List UInt8) (s : RdS), l.length ≤ f → l.length ≤ g → pl f l s = pl g l s
  | 0, g, l, s, h, _ => by
    obtain rfl : l = [] := List.eq_nil_of_length_eq_zero (by omega)
    cases g <;> simp [pl]
  | f + 1, 0, l, s, _, h => by
    obtain rfl : l = [] := List.eq_nil_of_length_eq_zero (by omega)
    simp [pl]
  | f + 1, g + 1, l, s, h, h' => by
    unfold pl
    by_cases c : l = []
    · rw [if_pos c, if_pos c]
    · rw [if_neg c, if_neg c]
      have hw := decodeL_width l
      have hl : 0 < l.length := List.length_pos_iff.2 c
      congr 1
      funext s'
      exact pl_fuel f g _ s' (by rw [List.length_drop]; omega) (by rw [List.length_drop]; omega)
def parse (l : List UInt8) (s : RdS) : Option RdS := pl l.length l s
theorem parse_nil (s : RdS) : parse [] s = some s := rfl
theorem parse_step (l : List UInt8) (h : l ≠ []) (s : RdS) : parse l s = (signP s ((decodeL l).1 : Int)).bind fun s' => parse (l.drop (decodeL l).2) s' := by
  have hl : 0 < l.length := List.length_pos_iff.2 h
  have hw := decodeL_width l
  obtain ⟨n, hn⟩ : ∃ n, l.length = n + 1 := ⟨l.length - 1, by omega⟩
  unfold parse
  rw [hn]
  show (if l = [] then some s else (signP s ((decodeL l).1 : Int)).bind fun s' => pl n (l.drop (decodeL l).2) s') = _
  rw [if_neg h]
  congr 1
  funext s'
  exact pl_fuel _ _ _ _ (by rw [List.length_drop]; omega) (Nat.le_refl _)
theorem parse_ascii (b : UInt8) (t : List UInt8) (h : b.toNat < 128) (s : RdS) : parse (b :: t) s = (signP s (b.toNat : Int)).bind fun s' => parse t s' := by
  rw [parse_step _ (by simp), decodeL_ascii b t h]
  rfl
theorem decodeL_two (b : UInt8) (t : List UInt8) (h1 : 128 ≤ b.toNat) (h2 : b.toNat < 192) : decodeL (195 :: b :: t) = (64 + b.toNat, 2) := by
  rw [decodeL_N]
  have e0 : ((195 :: b :: t : List UInt8).getD 0 0).toNat = 195 := rfl
  have e1 : ((195 :: b :: t : List UInt8).getD 1 0).toNat = b.toNat := rfl
  rw [e0, e1]
  unfold decodeN
  rw [if_neg (by omega), if_pos ⟨by omega, by simp, by omega⟩, if_pos (by omega)]
  congr 1
  omega
theorem parse_two (b : UInt8) (t : List UInt8) (h1 : 128 ≤ b.toNat) (h2 : b.toNat < 192) (s : RdS) : parse (195 :: b :: t) s = (signP s (64 + b.toNat : Int)).bind fun s' => parse t s' := by
  rw [parse_step _ (by simp), decodeL_two b t h1 h2]
  rfl
/-- a name's sign -/
def isSig (r : Int) : Prop := (97 ≤ r ∧ r ≤ 122) ∨ (223 ≤ r ∧ r ≤ 255 ∧ r ≠ 247) ∨ (48 ≤ r ∧ r ≤ 57)
theorem letB_iff (r : Int) (h : letB r = true) : (97 ≤ r ∧ r ≤ 122) ∨ (223 ≤ r ∧ r ≤ 255 ∧ r ≠ 247) := by
  unfold letB name_letter.f at h
  repeat' split at h
  all_goals simp at h
  all_goals omega
theorem digB_iff (r : Int) (h : digB r = true) : 48 ≤ r ∧ r ≤ 57 := by
  unfold digB name_digit.f at h
  split at h
  all_goals simp at h
  omega
theorem signB_iff (r : Int) (z : Bool) (h : signB r z = true) : isSig r := by
  unfold signB at h
  rw [Bool.or_eq_true, Bool.and_eq_true] at h
  rcases h with h | ⟨_, h⟩
  · rcases letB_iff r h with h | h
    · exact .inl h
    · exact .inr (.inl h)
  · exact .inr (.inr (digB_iff r h))
theorem toU8 (n : Nat) (h : n < 256) : (n.toUInt8).toNat = n := by
  show n % 256 = n
  omega
theorem enc_low (r : Int) (h0 : 0 ≤ r) (h1 : r ≤ 127) : encodeRune r = [r.toNat.toUInt8] := by
  unfold encodeRune encodeRuneZ
  rw [if_pos ⟨h0, h1⟩]
  rfl
theorem enc_two (r : Int) (h0 : 192 ≤ r) (h1 : r ≤ 255) : encodeRune r = [195, (r - 64).toNat.toUInt8] := by
  have e1 : 192 + r / 64 = 195 := by omega
  have e2 : 128 + r % 64 = r - 64 := by omega
  unfold encodeRune encodeRuneZ
  rw [if_neg (by omega), if_pos (by omega), e1, e2]
  rfl
theorem signP_word (s : RdS) (c : Int) (h : c ≠ 123 ∧ c ≠ 58 ∧ c ≠ 44 ∧ c ≠ 125) : signP s c = some ⟨s.T, s.wd ++ [c], s.nm, s.inn, s.fld⟩ := by
  unfold signP
  rw [if_neg (by simpa using h.1), if_neg (by simpa using h.2.1), if_neg (by simpa using h.2.2.1), if_neg (by simpa using h.2.2.2)]
/-- a word's sign -/
def isW (r : Int) : Prop := (0 ≤ r ∧ r ≤ 127 ∧ r ≠ 123 ∧ r ≠ 58 ∧ r ≠ 44 ∧ r ≠ 125) ∨ (223 ≤ r ∧ r ≤ 255)
theorem isSig.w {r : Int} (h : isSig r) : isW r := by
  rcases h with h | h | h
  · exact .inl (by omega)
  · exact .inr (by omega)
  · exact .inl (by omega)
theorem parse_sig (r : Int) (h : isW r) (t : List UInt8) (s : RdS) : parse (encodeRune r ++ t) s = parse t ⟨s.T, s.wd ++ [r], s.nm, s.inn, s.fld⟩ := by
  have hw : signP s r = some ⟨s.T, s.wd ++ [r], s.nm, s.inn, s.fld⟩ := signP_word s r (by rcases h with h | h <;> omega)
  by_cases c : r ≤ 127
  · have h0 : 0 ≤ r := by rcases h with h | h <;> omega
    have e := toU8 r.toNat (by omega)
    rw [enc_low r h0 c, List.singleton_append, parse_ascii _ _ (by omega), e, show ((r.toNat : Nat) : Int) = r by omega, hw]
    rfl
  · have h0 : 223 ≤ r ∧ r ≤ 255 := by rcases h with h | h <;> omega
    have e := toU8 (r - 64).toNat (by omega)
    rw [enc_two r (by omega) h0.2, List.cons_append, List.singleton_append, parse_two _ _ (by omega) (by omega), e, show (64 + ((r - 64).toNat : Nat) : Int) = r by omega, hw]
    rfl
theorem parse_word : ∀ (rs : List Int) (_ : ∀ r ∈ rs, isW r) (t : List UInt8) (s : RdS), parse (rs.flatMap encodeRune ++ t) s = parse t ⟨s.T, s.wd ++ rs, s.nm, s.inn, s.fld⟩
  | [], _, t, s => by rw [List.append_nil]; rfl
  | r :: rs, h, t, s => by
    rw [List.flatMap_cons, List.append_assoc, parse_sig r (h r (by simp)), parse_word rs (fun x hx => h x (List.mem_cons_of_mem _ hx))]
    rw [List.append_assoc]
    rfl
theorem len_runes (a : ByteArray) : ∀ (f pos n : Nat), a.size ≤ pos + f → 0 < lenFrom a f pos n → ∃ rs : List Int, a.data.toList.drop pos = rs.flatMap encodeRune ∧ (∀ r ∈ rs, isSig r) ∧ lenFrom a f pos n = ((n + rs.length : Nat) : Int) ∧ n + rs.length ≤ 8
  | 0, pos, n, h, hp => by
    have hz : a.data.toList.length = a.size := by rw [Array.length_toList]; rfl
    unfold lenFrom at hp ⊢
    by_cases c : n > 8
    · rw [if_pos c] at hp
      omega
    · rw [if_neg c]
      exact ⟨[], List.drop_eq_nil_of_le (by omega), by simp, rfl, by simp; omega⟩
  | f + 1, pos, n, h, hp => by
    have hz : a.data.toList.length = a.size := by rw [Array.length_toList]; rfl
    unfold lenFrom at hp ⊢
    by_cases c : pos < a.size
    · rw [if_pos c] at hp ⊢
      by_cases hs : signB ((Utf8.decode a pos).1 : Int) (decide (pos = 0)) = true
      · rw [if_pos hs] at hp ⊢
        have hw := decode_wide a pos c
        obtain ⟨rs, h1, h2, h3, h4⟩ := len_runes a f (pos + (Utf8.decode a pos).2) (n + 1) (by omega) hp
        have hsig := signB_iff _ _ hs
        have hne : a.data.toList.drop pos ≠ [] := fun h => by have := List.drop_eq_nil_iff.1 h; omega
        have hed := encode_decode (a.data.toList.drop pos) hne (by rw [decodeL_drop]; intro hx; rcases hsig with hh | hh | hh <;> omega)
        rw [decodeL_drop] at hed
        refine ⟨((Utf8.decode a pos).1 : Int) :: rs, ?_, ?_, ?_, ?_⟩
        · rw [List.flatMap_cons, hed, ← h1, ← List.drop_drop, List.take_append_drop]
        · intro r hr
          rcases List.mem_cons.1 hr with rfl | hr
          · exact hsig
          · exact h2 r hr
        · rw [h3, List.length_cons]
          congr 1
          omega
        · rw [List.length_cons]
          omega
      · rw [if_neg hs] at hp
        exact absurd hp (by omega)
    · rw [if_neg c] at hp ⊢
      by_cases c8 : n > 8
      · rw [if_pos c8] at hp
        omega
      · rw [if_neg c8]
        exact ⟨[], List.drop_eq_nil_of_le (by omega), by simp, rfl, by simp; omega⟩
/-- may it be a name? -/
def nameB (s : ByteArray) : Bool := decide (lenFrom s s.size 0 0 > 0)
theorem may_name (s : ByteArray) (h : s.size ≤ 9223372036854775807) : name_May.f s = some (nameB s) := by
  unfold name_May.f name_Len.f
  rw [if_pos h]
  rfl
theorem name_runes {s : ByteArray} (h : nameB s = true) : ∃ rs : List Int, s.data.toList = rs.flatMap encodeRune ∧ (∀ r ∈ rs, isSig r) ∧ 1 ≤ rs.length ∧ rs.length ≤ 8 := by
  have h0 : 0 < lenFrom s s.size 0 0 := of_decide_eq_true h
  obtain ⟨rs, h1, h2, h3, h4⟩ := len_runes s s.size 0 0 (by omega) h0
  exact ⟨rs, h1, h2, by omega, by omega⟩
end Go.Proofs.Ytlcanmndeempfaa.MoSch
