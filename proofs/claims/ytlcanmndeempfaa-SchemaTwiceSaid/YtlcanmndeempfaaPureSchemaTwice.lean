/- For every text and every sign: a text that is read as a schema is none with one sign more behind it, nor twice, one behind the other. Of texts of more than 600 bytes nothing is asked. -/
import Derived.Test.YtlcanmndeempfaaSchAwake
import Derived.Test.YtlcanmndeempfaaPAllx18
namespace Go.Proofs.Ytlcanmndeempfaa.Pure
open Go.RowKit Go.Proofs.Ytlcanmndeempfaa.PAll Go.Proofs.YtlcanmndeempfaaW.PrintWords Go.Proofs.YtlcanmndeempfaaW.PrintLast Go.Proofs.Ytlcanmndeempfaa.Sch
open Go.Lib (decodeL decodeL_width)
theorem twice_not {a : ByteArray} (h : (readQ a).2 = true) : (readQ (a ++ a)).2 = false := by
  cases h2 : (readQ (a ++ a)).2 with
  | false => rfl
  | true =>
    exfalso
    obtain ⟨T, _, hm, ha, _⟩ := read_some h
    obtain ⟨T2, _, hm2, _, nm2, hp2⟩ := read_some h2
    obtain ⟨n1, p1⟩ := parse_types T (may_okT hm) [] ⟨#[]⟩
    obtain ⟨n2, p2⟩ := parse_types T (may_okT hm) T n1
    have hd : (a ++ a).data.toList = textL T ++ (textL T ++ []) := by rw [ba_app, ha, textQ_data hm, List.append_nil]
    have e0 : start0 = ⟨[], [], ⟨#[]⟩, false, false⟩ := rfl
    rw [hd, e0, p1, List.nil_append, p2, parse_nil] at hp2
    have hT : T ++ T = T2 := congrArg RdS.T (Option.some.inj hp2)
    rw [← hT] at hm2
    obtain ⟨g1, _, _⟩ := may_parts hm
    obtain ⟨_, _, hq⟩ := may_parts hm2
    have hl : T.length < (T ++ T).length := by rw [List.length_append]; omega
    have hi := (hq T.length hl).2.1
    have e1 : (T ++ T)[T.length]'hl = T[0]'(by omega) := by
      rw [List.getElem_append_right (Nat.le_refl _)]
      congr 1
      omega
    have e2 : (T ++ T)[0]'(by omega) = T[0]'(by omega) := List.getElem_append_left _
    rw [e1] at hi
    have := place_first (fun y => y.f0.toList == (T[0]'(by omega)).f0.toList) (T ++ T) 0 0 (by omega) (by rw [e2]; exact beq_self_eq_true _)
    unfold nameIdx at hi
    omega
theorem more_not {a b : ByteArray} {c : UInt8} (h : (readQ a).2 = true) (hb : b.data.toList = [c]) : (readQ (a ++ b)).2 = false := by
  cases h2 : (readQ (a ++ b)).2 with
  | false => rfl
  | true =>
    exfalso
    obtain ⟨T, _, hm, ha, _⟩ := read_some h
    obtain ⟨T2, _, hm2, _, nm2, hp2⟩ := read_some h2
    obtain ⟨n1, p1⟩ := parse_types T (may_okT hm) [] ⟨#[]⟩
    have hd : (a ++ b).data.toList = textL T ++ [c] := by rw [ba_app, ha, textQ_data hm, hb]
    have e0 : start0 = ⟨[], [], ⟨#[]⟩, false, false⟩ := rfl
    have hw := decodeL_width [c]
    have hdr : [c].drop (decodeL [c]).2 = [] := List.drop_of_length_le (by simpa using hw)
    rw [hd, e0, p1, parse_step _ (by simp), hdr] at hp2
    obtain ⟨s', h3, h4⟩ := Option.bind_eq_some_iff.mp hp2
    obtain rfl := Option.some.inj (show some s' = some _ from h4)
    unfold signP at h3
    split at h3
    · exact absurd (show true = false from congrArg RdS.inn (Option.some.inj (show some _ = some _ from h3))) (by decide)
    · split at h3
      · exact absurd h3 (by simp)
      · split at h3
        · exact absurd h3 (by simp)
        · split at h3
          · exact absurd h3 (by simp)
          · exact absurd (congrArg RdS.wd (Option.some.inj h3)) (by simp)
theorem SchemaTwice : foliatelaw06_SchemaTwice.Pure := by
  intro a0 a1 _ _
  obtain ⟨m, aw⟩ := awake
  refine ⟨m + 1000 + 1, ?_⟩
  unfold foliatelaw06_SchemaTwice.f
  rw [aw _ (by omega), obindS, if_pos rfl, foliatelaw06_SchemaTwice.j0.eq_2]
  by_cases c : (a0.size : Int) > 600
  · rw [decide_eq_true c, if_pos rfl]
  · have hz : (strOfNums [a1]).size = 1 := rfl
    have h1 : (a0 ++ a0).size = a0.size + a0.size := ByteArray.size_append
    have h2 : (a0 ++ strOfNums [a1]).size = a0.size + 1 := ByteArray.size_append
    rw [decide_eq_false c, if_neg (by decide), read_eq a0 (by omega) _ (by omega), obindS, if_pos (by omega), read_eq (a0 ++ a0) (by omega) _ (by omega), obindS, obindS, if_pos (by omega), read_eq _ (by omega) _ (by omega), obindS]
    cases h : (readQ a0).2 with
    | false => rfl
    | true =>
      rw [if_pos rfl, twice_not h, more_not (c := UInt8.ofNat a1.toNat) h rfl]
      rfl
end Go.Proofs.Ytlcanmndeempfaa.Pure
