/- Two values that fit a field have the same bytes just if they are the same. -/
import Derived.Test.YtepgcejgjfeolaaVal
import Derived.Test.YtepgcejgjfeolaaPAllx17
namespace Go.Proofs.Ytepgcejgjfeolaa.Pure
open Go.RowKit Go.Proofs.Ytepgcejgjfeolaa.PAll Go.Proofs.YtepgcejgjfeolaaW.PrintWords Go.Proofs.YtepgcejgjfeolaaW.PrintLast Go.Proofs.YtepgcejgjfeolaaW.PrintMore Go.Proofs.Ytepgcejgjfeolaa.Vari Go.Proofs.Ytepgcejgjfeolaa.Val
theorem bytesOf_bytes' (S : ByteArray) : Bytes (bytesOf S) := fun x hx => by
  unfold bytesOf at hx
  obtain ⟨b, _, rfl⟩ := List.mem_map.1 hx
  have := b.toNat_lt
  omega
theorem str_inj {l m : List Int} (hl : Bytes l) (hm : Bytes m) (h : (strOfNums l).toList = (strOfNums m).toList) : l = m := by
  rw [ByteArray.toList_eq, ByteArray.toList_eq] at h
  unfold strOfNums at h
  simp only at h
  induction l generalizing m with
  | nil =>
    cases m with
    | nil => rfl
    | cons _ _ => simp at h
  | cons x t ih =>
    cases m with
    | nil => simp at h
    | cons y u =>
      simp only [List.map_cons, List.cons.injEq] at h
      have h1 := hl x List.mem_cons_self
      have h2 := hm y List.mem_cons_self
      have h3 := congrArg UInt8.toNat h.1
      simp only [UInt8.toNat_ofNat'] at h3
      have h4 : x = y := by omega
      rw [h4, ih (fun z hz => hl z (List.mem_cons_of_mem _ hz)) (fun z hz => hm z (List.mem_cons_of_mem _ hz)) h.2]
theorem bytesOf_inj {S T : ByteArray} (h : bytesOf S = bytesOf T) : S.toList = T.toList := by
  unfold bytesOf at h
  rw [ByteArray.toList_eq, ByteArray.toList_eq]
  exact List.map_inj_right (fun a b hab => UInt8.toNat_inj.1 (by exact_mod_cast hab)) |>.1 h
theorem pb_pre {n m : Nat} {t u : List Int} (hn : n < 2 ^ 64) (hm : m < 2 ^ 64) (h : pb n ++ t = pb m ++ u) : n = m ∧ t = u := by
  have a := g_pb n t hn
  rw [h, g_pb m u hm] at a
  simp only [Prod.mk.injEq] at a
  have e : n = m := by omega
  subst e
  exact ⟨rfl, List.append_cancel_left h⟩
theorem pb_inj {n m : Nat} (hn : n < 2 ^ 64) (hm : m < 2 ^ 64) (h : pb n = pb m) : n = m := (pb_pre (t := []) (u := []) hn hm (by rw [h])).1
theorem Z_inj {n m : Int} (h : Z n = Z m) : n = m := by rw [← Zb_Z n, h, Zb_Z]
theorem V_same {k N N' : Int} {S S' : ByteArray} {R R' : Int} (hN : -9223372036854775808 ≤ N ∧ N ≤ 9223372036854775807) (hN' : -9223372036854775808 ≤ N' ∧ N' ≤ 9223372036854775807) (h : fitsV k N S R = true) (h' : fitsV k N' S' R' = true) :
    Bytes (V k N S R) ∧ Bytes (V k N' S' R') ∧ (V k N S R = V k N' S' R' ↔ N = N' ∧ S.toList = S'.toList ∧ R = R') := by
  by_cases hk : 0 ≤ k ∧ k ≤ 5
  case neg => rw [fits_out hk] at h; exact absurd h (by simp)
  by_cases h4 : k = 4
  · subst h4
    rw [fits_text] at h h'
    by_cases c : N = 0 ∧ R = 0
    case neg => rw [if_neg c] at h; exact absurd h (by simp)
    by_cases c' : N' = 0 ∧ R' = 0
    case neg => rw [if_neg c'] at h'; exact absurd h' (by simp)
    rw [if_pos c] at h
    rw [if_pos c'] at h'
    have s := of_decide_eq_true h
    have s' := of_decide_eq_true h'
    have b : S.size < 2 ^ 64 := by omega
    have b' : S'.size < 2 ^ 64 := by omega
    have e : V 4 N S R = pb S.size ++ bytesOf S := by unfold V; rw [if_pos rfl]
    have e' : V 4 N' S' R' = pb S'.size ++ bytesOf S' := by unfold V; rw [if_pos rfl]
    rw [e, e']
    refine ⟨(pb_bytes b).append (bytesOf_bytes' S), (pb_bytes b').append (bytesOf_bytes' S'), fun hh => ⟨by omega, bytesOf_inj (pb_pre b b' hh).2, by omega⟩, fun hh => ?_⟩
    have : S = S' := by
      have h2 := hh.2.1
      rw [ByteArray.toList_eq, ByteArray.toList_eq] at h2
      cases S; cases S'
      simp only at h2
      congr 1
      exact Array.toList_inj.1 h2
    rw [this]
  by_cases h5 : k = 5
  · subst h5
    rw [fitsv_ref] at h h'
    by_cases c : N = 0 ∧ S.toList = []
    case neg => rw [if_neg c] at h; exact absurd h (by simp)
    by_cases c' : N' = 0 ∧ S'.toList = []
    case neg => rw [if_neg c'] at h'; exact absurd h' (by simp)
    rw [if_pos c] at h
    rw [if_pos c'] at h'
    simp only [Bool.and_eq_true, decide_eq_true_eq] at h h'
    have b : (R + 1).toNat < 2 ^ 64 := by omega
    have b' : (R' + 1).toNat < 2 ^ 64 := by omega
    have e : V 5 N S R = pb (R + 1).toNat := by unfold V; rw [if_neg (by decide), if_pos rfl]
    have e' : V 5 N' S' R' = pb (R' + 1).toNat := by unfold V; rw [if_neg (by decide), if_pos rfl]
    rw [e, e']
    refine ⟨pb_bytes b, pb_bytes b', fun hh => ?_, fun hh => by rw [hh.2.2]⟩
    have := pb_inj b b' hh
    exact ⟨by omega, by rw [c.2, c'.2], by omega⟩
  · rw [fits_num (by omega)] at h h'
    by_cases c : S.toList = [] ∧ R = 0
    case neg => rw [if_neg c] at h; exact absurd h (by simp)
    by_cases c' : S'.toList = [] ∧ R' = 0
    case neg => rw [if_neg c'] at h'; exact absurd h' (by simp)
    have z := Z_range N hN.1 hN.2
    have z' := Z_range N' hN'.1 hN'.2
    have b : (Z N).toNat < 2 ^ 64 := by omega
    have b' : (Z N').toNat < 2 ^ 64 := by omega
    have e : V k N S R = pb (Z N).toNat := by unfold V; rw [if_neg h4, if_neg h5]
    have e' : V k N' S' R' = pb (Z N').toNat := by unfold V; rw [if_neg h4, if_neg h5]
    rw [e, e']
    refine ⟨pb_bytes b, pb_bytes b', fun hh => ?_, fun hh => by rw [hh.1]⟩
    have := pb_inj b b' hh
    exact ⟨Z_inj (by omega), by rw [c.1, c'.1], by omega⟩
theorem ValueApart (a0_0 : ByteArray) (a0_1 : Int) (a0_2 : ByteArray) (w0_1 : (Lit.int .i64 a0_1).wf = true) (a1_0 : Int) (a1_1 : ByteArray) (a1_2 : Int) (w1_0 : (Lit.int .i64 a1_0).wf = true) (w1_2 : (Lit.int .i64 a1_2).wf = true) (a2_0 : Int) (a2_1 : ByteArray) (a2_2 : Int) (w2_0 : (Lit.int .i64 a2_0).wf = true) (w2_2 : (Lit.int .i64 a2_2).wf = true) :
    ∃ k, foliatelaw07_ValueApart.f k a0_0 a0_1 a0_2 a1_0 a1_1 a1_2 a2_0 a2_1 a2_2 = some true := by
  have hN := i64_of w1_0
  have hM := i64_of w2_0
  obtain ⟨K, hK⟩ : ∃ K : Nat, K = 30 := ⟨_, rfl⟩
  refine ⟨K + 1, ?_⟩
  have out : foliatelaw07_ValueApart.j0 (K + 1) true true a0_0 a0_1 a0_2 a1_0 a1_1 a1_2 a2_0 a2_1 a2_2 = some true := by rw [foliatelaw07_ValueApart.j0, if_pos rfl]
  unfold foliatelaw07_ValueApart.f
  rw [awake (K + 1) (by omega)]
  simp only [obind, if_true]
  by_cases c1 : (a1_1.size : Int) > 300
  · rw [if_pos c1, out]
  rw [if_neg c1]
  by_cases c2 : (a2_1.size : Int) > 300
  · rw [decide_eq_true c2, out]
  rw [decide_eq_false c2, foliatelaw07_ValueApart.j0, if_neg (by simp)]
  cases hf : fitsV a0_1 a1_0 a1_1 a1_2 with
  | false =>
    rw [put_no _ _ K hf]
    cases hg : fitsV a0_1 a2_0 a2_1 a2_2 with
    | true => rw [put_yes _ _ K (by omega) hM hg]; simp [obind]
    | false => rw [put_no _ _ K hg]; simp [obind]
  | true =>
    rw [put_yes _ _ K (by omega) hN hf]
    cases hg : fitsV a0_1 a2_0 a2_1 a2_2 with
    | false => rw [put_no _ _ K hg]; simp [obind]
    | true =>
      rw [put_yes _ _ K (by omega) hM hg]
      simp only [obind, if_true]
      obtain ⟨b1, b2, b3⟩ := V_same hN hM hf hg
      by_cases e : V a0_1 a1_0 a1_1 a1_2 = V a0_1 a2_0 a2_1 a2_2
      · obtain ⟨e1, e2, e3⟩ := b3.1 e
        rw [e, e1, e2, e3]
        simp
      · have h1 : ((strOfNums (V a0_1 a1_0 a1_1 a1_2)).toList == (strOfNums (V a0_1 a2_0 a2_1 a2_2)).toList) = false := beq_eq_false_iff_ne.mpr (fun h => e (str_inj b1 b2 h))
        have h2 : (a1_0 == a2_0 && (a1_1.toList == a2_1.toList && (a1_2 == a2_2))) = false := by
          cases hx : (a1_0 == a2_0 && (a1_1.toList == a2_1.toList && (a1_2 == a2_2))) with
          | false => rfl
          | true =>
            simp only [Bool.and_eq_true, beq_iff_eq] at hx
            exact absurd (b3.2 hx) e
        rw [h1, h2]; rfl
end Go.Proofs.Ytepgcejgjfeolaa.Pure
