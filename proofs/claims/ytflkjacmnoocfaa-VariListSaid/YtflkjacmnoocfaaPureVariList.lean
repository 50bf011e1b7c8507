/- For every row of at most 30 numbers: their bytes, one behind the other, are read as they are; cut anywhere before the end, they are fewer numbers, or none. -/
import Derived.Test.YtflkjacmnoocfaaVariAwake
import Derived.Test.YtflkjacmnoocfaaVariAll
import Derived.Test.YtflkjacmnoocfaaPAllx13
namespace Go.Proofs.Ytflkjacmnoocfaa.Pure
open Go.RowKit Go.Proofs.Ytflkjacmnoocfaa.PAll Go.Proofs.YtflkjacmnoocfaaW.PrintWords Go.Proofs.YtflkjacmnoocfaaW.PrintLast Go.Proofs.YtflkjacmnoocfaaW.PrintMore Go.Proofs.Ytflkjacmnoocfaa.Vari
def cat : List Int → List Int
  | [] => []
  | x :: t => pb x.toNat ++ cat t
def Nums (l : List Int) : Prop := ∀ x ∈ l, 0 ≤ x ∧ x < 18446744073709551616
theorem nums_nat {x : Int} (h : 0 ≤ x ∧ x < 18446744073709551616) : x.toNat < 2 ^ 64 := by omega
theorem cat_bytes : ∀ (l : List Int), Nums l → Bytes (cat l)
  | [], _ => fun _ h => by simp [cat] at h
  | x :: t, h => (pb_bytes (nums_nat (h x List.mem_cons_self))).append (cat_bytes t (fun y hy => h y (List.mem_cons_of_mem _ hy)))
theorem cat_len : ∀ (l : List Int), (cat l).length ≤ 10 * l.length
  | [] => by simp [cat]
  | x :: t => by
    have := cat_len t
    have := pb_len x.toNat
    simp only [cat, List.length_append, List.length_cons]
    omega
theorem E_nil (N : Nat) : E N [] = [] := by cases N <;> rfl
theorem E_cat : ∀ (l : List Int) (N : Nat), Nums l → l.length ≤ N → E N (cat l) = l.map (fun x => (x, true))
  | [], N, _, _ => E_nil N
  | x :: t, N, h, hN => by
    obtain ⟨N, rfl⟩ : ∃ N', N = N' + 1 := ⟨N - 1, by simp at hN; omega⟩
    have hx := h x List.mem_cons_self
    have hx2 : ((x.toNat : Nat) : Int) = x := by omega
    simp only [List.length_cons] at hN
    rw [cat, E_put N x.toNat (cat t) (nums_nat hx), E_cat t N (fun y hy => h y (List.mem_cons_of_mem _ hy)) (by omega), hx2]
    rfl
theorem E_cut : ∀ (l : List Int) (N k : Nat), Nums l → k < (cat l).length → (E N ((cat l).take k)).all (fun x => x.2) = true → (E N ((cat l).take k)).length < l.length
  | [], _, _, _, hk, _ => by simp [cat] at hk
  | x :: t, 0, _, _, _, _ => by simp [E]
  | x :: t, N + 1, k, h, hk, ha => by
    have hx := nums_nat (h x List.mem_cons_self)
    have hp := pb_len x.toNat
    simp only [cat, List.length_append] at hk
    by_cases hc : k < (pb x.toNat).length
    · have e : (cat (x :: t)).take k = (pb x.toNat).take k := by rw [cat]; exact List.take_append_of_le_length (by omega)
      rw [e] at ha ⊢
      by_cases h0 : (pb x.toNat).take k = []
      · rw [h0, E_nil]; simp
      · rw [E, if_neg h0, g_cut _ _ hx hc, if_pos rfl] at ha
        simp at ha
    · have e : (cat (x :: t)).take k = pb x.toNat ++ (cat t).take (k - (pb x.toNat).length) := by
        rw [cat, List.take_append, List.take_of_length_le (by omega)]
      rw [e, E_put N _ _ hx] at ha ⊢
      simp only [List.all_cons, Bool.true_and, List.length_cons] at ha ⊢
      have := E_cut t N _ (fun y hy => h y (List.mem_cons_of_mem _ hy)) (by omega) ha
      omega
theorem same_loop (l : List Int) (hl : l.length < 1000) : ∀ (d i k : Nat), i + d = l.length → d + 1 ≤ k → foliateref01_Same.l0 k l l (i : Int) = some true
  | 0, i, k, hi, hk => by
    obtain ⟨k, rfl⟩ : ∃ k', k = k' + 1 := ⟨k - 1, by omega⟩
    rw [foliateref01_Same.l0, if_neg (by omega)]
  | d + 1, i, k, hi, hk => by
    obtain ⟨k, rfl⟩ : ∃ k', k = k' + 1 := ⟨k - 1, by omega⟩
    have e : wrap64 ((i : Int) + 1) = ((i + 1 : Nat) : Int) := by unfold wrap64; omega
    rw [foliateref01_Same.l0, if_pos (by omega), if_pos (by omega), if_pos (by omega), if_pos rfl, e]
    exact same_loop l hl d (i + 1) k (by omega) (by omega)
theorem same_eq (l : List Int) (k : Nat) (hl : l.length < 1000) (hk : 1000 ≤ k) : foliateref01_Same.f k l l = some true := by
  unfold foliateref01_Same.f
  rw [if_pos rfl]
  exact same_loop l hl l.length 0 k (by omega) (by omega)
theorem list_loop (l : List Int) (hn : Nums l) (hl : l.length ≤ 30) (a1 : Int) : ∀ (t acc : List Int) (i k : Nat), l.drop i = t → i + t.length = l.length → acc.length + 10 * t.length ≤ 300 → 100 ≤ k → foliatelaw01_VariList.l0 (k + t.length) l a1 acc (i : Int) = foliatelaw01_VariList.l0 k l a1 (acc ++ cat t) (l.length : Int)
  | [], acc, i, k, hd, hi, ha, hk => by
    simp only [List.length_nil, Nat.add_zero] at hi
    rw [hi]; simp [cat]
  | x :: t, acc, i, k, hd, hi, ha, hk => by
    simp only [List.length_cons] at hi ha
    have hm : x ∈ l := List.mem_of_mem_drop (by rw [hd]; exact List.mem_cons_self)
    have hx := hn x hm
    have hx2 : ((x.toNat : Nat) : Int) = x := by omega
    have hd' : l.drop (i + 1) = t := by rw [← List.drop_drop, hd]; rfl
    have hp := pb_len x.toNat
    have e : wrap64 ((i : Int) + 1) = ((i + 1 : Nat) : Int) := by unfold wrap64; omega
    have hput := put_eq x.toNat (k + t.length) (nums_nat hx) (by omega)
    rw [hx2] at hput
    rw [show k + (x :: t).length = (k + t.length) + 1 from rfl, foliatelaw01_VariList.l0, if_pos (by omega), if_pos (by omega), rd_drop hd, hput]
    simp only [obind]
    rw [if_pos (by omega), e, list_loop l hn hl a1 t (acc ++ pb x.toNat) (i + 1) k hd' (by omega) (by rw [List.length_append]; omega) hk, cat, List.append_assoc]
theorem VariList : foliatelaw01_VariList.Pure := by
  intro l0 a1 _ _ hw w1
  have hn : Nums l0 := fun x hx => by
    obtain ⟨n, rfl, h⟩ := u64_of (hw x hx)
    omega
  obtain ⟨K, hK⟩ : ∃ K : Nat, K = 3000 := ⟨_, rfl⟩
  refine ⟨K + 1 + l0.length + 1, ?_⟩
  unfold foliatelaw01_VariList.f
  rw [awake _ (by omega)]
  simp only [obind, if_true]
  by_cases c0 : (l0.length : Int) > 30
  · simp [foliatelaw01_VariList.j0, c0]
  · have hcl := cat_len l0
    have hcb := cat_bytes l0 hn
    have hloop := list_loop l0 hn (by omega) a1 l0 [] 0 (K + 1) rfl (by omega) (by simp; omega) (by omega)
    have hA : A 300 (cat l0) = (l0, true) := by
      unfold A
      rw [E_cat l0 300 hn (by omega), if_pos (by simp), List.map_map, show ((fun x : Int × Bool => x.1) ∘ fun x : Int => (x, true)) = id from rfl, List.map_id]
    rw [foliatelaw01_VariList.j0, if_neg (by simp; omega)]
    refine (hloop).trans ?_
    rw [List.nil_append, foliatelaw01_VariList.l0, if_neg (by omega), all_eq 300 (cat l0) K (by omega) hcb (by omega) (by omega), hA]
    simp only [obind]
    rw [same_eq l0 K (by omega) (by omega)]
    simp only [obind, if_true]
    by_cases c1 : a1 < 0
    · rw [if_pos c1]
    rw [if_neg c1]
    by_cases c2 : a1 ≥ ((cat l0).length : Int)
    · rw [if_pos c2]
    rw [if_neg c2, if_pos (by omega), if_pos (by omega), all_eq 300 _ K (by rw [List.length_take]; omega) (hcb.take _) (by omega) (by omega)]
    simp only [obind]
    unfold A
    by_cases ha : (E 300 ((cat l0).take a1.toNat)).all (fun x => x.2) = true
    · have := E_cut l0 300 a1.toNat hn (by omega) ha
      rw [if_pos ha]
      simp only
      rw [if_pos trivial, if_pos (by rw [List.length_map]; omega)]
    · rw [if_neg ha]
      simp
end Go.Proofs.Ytflkjacmnoocfaa.Pure
