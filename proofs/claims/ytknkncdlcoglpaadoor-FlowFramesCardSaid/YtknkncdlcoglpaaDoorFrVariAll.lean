import Derived.Test.YtknkncdlcoglpaaDoorFrVari
import Derived.Test.YtknkncdlcoglpaaDoorPFrx4
namespace Go.Proofs.YtknkncdlcoglpaaDoor.FrVari
open Go.RowKit Go.Proofs.YtknkncdlcoglpaaDoor.PFr Go.Proofs.YtknkncdlcoglpaaDoorW.PrintWords Go.Proofs.YtknkncdlcoglpaaDoorW.PrintLast Go.Proofs.YtknkncdlcoglpaaDoorW.PrintMore
/-! All numbers of bytes. -/
def E : Nat → List Int → List (Int × Bool)
  | 0, _ => []
  | N + 1, l => if l = [] then [] else if (g 0 0 l).2 = 0 then [((g 0 0 l).1, false)] else ((g 0 0 l).1, true) :: E N (l.drop (g 0 0 l).2.toNat)
theorem E_len : ∀ (N : Nat) (l : List Int), (E N l).length ≤ N
  | 0, _ => by simp [E]
  | N + 1, l => by
    rw [E]
    split
    · simp
    split
    · simp
    · have := E_len N (l.drop (g 0 0 l).2.toNat)
      simp only [List.length_cons]
      omega
theorem each_eq : ∀ (N : Nat) (l : List Int) (K : Nat), l.length ≤ N → Bytes l → N < 140737488355328 → 3 * N + 4 ≤ K → vari_eachL K l = some (E N l)
  | 0, l, K, hl, hb, hN, hK => by
    obtain ⟨K, rfl⟩ : ∃ K', K = K' + 1 := ⟨K - 1, by omega⟩
    rw [vari_eachL.eq_2, if_pos (List.eq_nil_of_length_eq_zero (by omega))]
    rfl
  | N + 1, l, K, hl, hb, hN, hK => by
    obtain ⟨K, rfl⟩ : ∃ K', K = K' + 1 := ⟨K - 1, by omega⟩
    rw [vari_eachL.eq_2, E]
    by_cases h0 : l = []
    · rw [if_pos h0, if_pos h0]
    rw [if_neg h0, if_neg h0, get_eq l K hb (by omega) (by omega)]
    simp only [obind]
    have hle := g_le l hb
    by_cases h1 : (g 0 0 l).2 = 0
    · rw [if_pos h1, if_pos h1]
    · rw [if_neg h1, if_neg h1, if_pos (by omega), each_eq N (l.drop (g 0 0 l).2.toNat) K (by rw [List.length_drop]; omega) (hb.drop _) (by omega) (by omega)]
      simp only [obind]
/-- what All answers -/
def A (N : Nat) (l : List Int) : List Int × Bool := if (E N l).all (fun x => x.2) = true then ((E N l).map (fun x => x.1), true) else ([], false)
theorem all_eq (N : Nat) (l : List Int) (K : Nat) (hl : l.length ≤ N) (hb : Bytes l) (hN : N < 17592186044416) (hK : 3 * N + 4 ≤ K) : vari_All.f K l = some (A N l) := by
  unfold vari_All.f A
  rw [each_eq N l K hl hb (by omega) hK]
  simp only [obind]
  have := E_len N l
  rw [if_pos (by omega)]
theorem E_put (N n : Nat) (t : List Int) (hn : n < 2 ^ 64) : E (N + 1) (pb n ++ t) = ((n : Int), true) :: E N t := by
  have hp := pb_len n
  have hne : ¬ pb n ++ t = [] := by
    intro h
    have := congrArg List.length h
    rw [List.length_append, List.length_nil] at this
    omega
  rw [E, if_neg hne, g_pb n t hn, if_neg (by simp only; omega)]
  simp
end Go.Proofs.YtknkncdlcoglpaaDoor.FrVari
