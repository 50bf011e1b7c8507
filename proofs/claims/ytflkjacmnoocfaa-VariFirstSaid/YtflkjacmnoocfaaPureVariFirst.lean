/- For every row of at most 300 bytes: all its numbers are the one it begins by and those of the rest; of no bytes there are none; and where there is no first one there are none, unless the row is bare. -/
import Derived.Test.YtflkjacmnoocfaaVariAwake
import Derived.Test.YtflkjacmnoocfaaVariAll
import Derived.Test.YtflkjacmnoocfaaPAllx15
namespace Go.Proofs.Ytflkjacmnoocfaa.Pure
open Go.RowKit Go.Proofs.Ytflkjacmnoocfaa.PAll Go.Proofs.YtflkjacmnoocfaaW.PrintWords Go.Proofs.YtflkjacmnoocfaaW.PrintLast Go.Proofs.YtflkjacmnoocfaaW.PrintMore Go.Proofs.Ytflkjacmnoocfaa.Vari
theorem first_loop (a : Int) (t : List Int) (ht : t.length < 1000) : ∀ (d i k : Nat), i + d = t.length → d + 1 ≤ k → foliatelaw01_VariFirst.l0 k (a :: t) t (i : Int) = some true
  | 0, i, k, hi, hk => by
    obtain ⟨k, rfl⟩ : ∃ k', k = k' + 1 := ⟨k - 1, by omega⟩
    rw [foliatelaw01_VariFirst.l0, if_neg (by omega)]
  | d + 1, i, k, hi, hk => by
    obtain ⟨k, rfl⟩ : ∃ k', k = k' + 1 := ⟨k - 1, by omega⟩
    have e : wrap64 ((i : Int) + 1) = ((i + 1 : Nat) : Int) := by unfold wrap64; omega
    have hr : rd (a :: t) ((i + 1 : Nat) : Int) = rd t (i : Int) := by
      unfold rd
      rw [show ((i + 1 : Nat) : Int).toNat = i + 1 from by omega, show ((i : Nat) : Int).toNat = i from by omega]
      rfl
    rw [foliatelaw01_VariFirst.l0, if_pos (by omega), e, if_pos (by omega), if_pos (by simp only [List.length_cons]; omega), if_pos (by omega), if_pos hr]
    exact first_loop a t ht d (i + 1) k (by omega) (by omega)
theorem VariFirst : foliatelaw01_VariFirst.Pure := by
  intro l0 _ _ hw
  have hb := bytes_of hw
  obtain ⟨K, hK⟩ : ∃ K : Nat, K = 3000 := ⟨_, rfl⟩
  refine ⟨K + 3, ?_⟩
  unfold foliatelaw01_VariFirst.f
  rw [awake (K + 3) (by omega)]
  simp only [obind, if_true]
  by_cases c0 : (l0.length : Int) > 300
  · simp [foliatelaw01_VariFirst.j0, c0]
  · rw [foliatelaw01_VariFirst.j0, if_neg (by simp; omega), all_eq 301 l0 (K + 2) (by omega) hb (by omega) (by omega), get_eq l0 (K + 2) hb (by omega) (by omega)]
    simp only [obind]
    by_cases hnil : l0 = []
    · subst hnil
      rw [if_pos (by simp), foliatelaw01_VariFirst.j1, if_pos rfl, show A 301 [] = (([] : List Int), true) from A_nil 300, show g 0 0 [] = ((0 : Int), (0 : Int)) from rfl]
      simp
    · have hpos : 0 < l0.length := by rcases l0 with _ | _ <;> simp_all
      rw [if_neg (by omega)]
      have hle := g_le l0 hb
      by_cases hz : (g 0 0 l0).2 = 0
      · have hA : A 301 l0 = ([], false) := by
          unfold A
          rw [E, if_neg hnil, if_pos hz]
          simp
        rw [if_pos (by omega), foliatelaw01_VariFirst.j1, if_pos rfl, hA, hz]
        simp [hnil]
      · obtain ⟨n, rest, h1, h2, h3⟩ := g_read l0 hb (by omega)
        have hp := pb_len n
        have hlen : (l0.length : Int) = (pb n).length + rest.length := by rw [h2, List.length_append]; omega
        have hdrop : l0.drop ((pb n).length : Int).toNat = rest := by rw [h2]; simp
        have hbr : Bytes rest := by rw [← hdrop]; exact hb.drop _
        have hE : E 301 l0 = ((n : Int), true) :: E 300 rest := by rw [h2]; exact E_put 300 n rest h1
        rw [h3]
        simp only
        rw [if_neg (by omega), decide_eq_false (by omega), foliatelaw01_VariFirst.j1, if_neg (by simp), if_pos (by omega), if_pos (by omega), hdrop, all_eq 300 rest (K + 1) (by omega) hbr (by omega) (by omega)]
        simp only [obind]
        by_cases ha : (E 300 rest).all (fun x => x.2) = true
        · have hA : A 301 l0 = ((n : Int) :: (E 300 rest).map (fun x => x.1), true) := by
            unfold A
            rw [hE, if_pos (by simpa using ha)]
            rfl
          have hB : A 300 rest = ((E 300 rest).map (fun x => x.1), true) := by unfold A; rw [if_pos ha]
          have hl := E_len 300 rest
          have hw1 : wrap64 ((((E 300 rest).map (fun x => x.1)).length : Int) + 1) = (((n : Int) :: (E 300 rest).map (fun x => x.1)).length : Int) := by
            simp only [List.length_cons, List.length_map]
            unfold wrap64; omega
          rw [hA, hB]
          simp only
          rw [if_neg (by simp), if_pos trivial, hw1, if_pos rfl, if_pos (by simp), show rd ((n : Int) :: (E 300 rest).map (fun x => x.1)) 0 = n from rfl, foliatelaw01_VariFirst.j2, if_neg (by simp)]
          have hml : ((E 300 rest).map (fun x => x.1)).length < 1000 := by simp only [List.length_map]; omega
          have hml2 : ((E 300 rest).map (fun x => x.1)).length ≤ 300 := by rw [List.length_map]; exact hl
          exact first_loop (n : Int) _ hml ((E 300 rest).map (fun x => x.1)).length 0 K (Nat.zero_add _) (by omega)
        · have hA : A 301 l0 = ([], false) := by
            unfold A
            rw [hE, if_neg (by simpa using ha)]
          have hB : A 300 rest = ([], false) := by unfold A; rw [if_neg ha]
          rw [hA, hB]
          simp only
          rw [if_neg (by simp), if_neg (by simp), foliatelaw01_VariFirst.j2, if_neg (by simp)]
          obtain ⟨K, rfl⟩ : ∃ K', K = K' + 1 := ⟨K - 1, by omega⟩
          rw [foliatelaw01_VariFirst.l0, if_neg (by simp)]
end Go.Proofs.Ytflkjacmnoocfaa.Pure
