import Derived.Test.YtknkncdlcoglpaaDoorFrFrame
import Derived.Test.YtknkncdlcoglpaaDoorFrVariAll
import Derived.Test.YtknkncdlcoglpaaDoorPFrx2
import Derived.Test.YtknkncdlcoglpaaDoorPFrx6
import Derived.Test.YtknkncdlcoglpaaDoorPFrx6
import Derived.Test.YtknkncdlcoglpaaDoorPFrx6
import Derived.Test.YtknkncdlcoglpaaDoorPFrx7
import Derived.Test.YtknkncdlcoglpaaDoorPFrx7
namespace Go.Proofs.YtknkncdlcoglpaaDoor.FrFlow
open Go.RowKit Go.Proofs.YtknkncdlcoglpaaDoor.PFr Go.Proofs.YtknkncdlcoglpaaDoorW.PrintWords Go.Proofs.YtknkncdlcoglpaaDoorW.PrintLast Go.Proofs.YtknkncdlcoglpaaDoor.FrVari
open Go.Proofs.YtknkncdlcoglpaaDoor.FrFrame (frameB frameB_length allL allf_eq allL_frame allL_nil frame_bytes put_ok next_nat getP get_inv get_err allL_cons)
/-! Flows, as they are printed, told plainly. -/
abbrev Fr := S50
/-- all parts of at most so many bytes -/
def upto (m : Nat) (ps : List (List Int)) : Prop := ∀ p ∈ ps, p.length ≤ m
theorem rdL2_nat {ps : List (List Int)} {i : Nat} (h : i < ps.length) : rd_L2 ps (i : Int) = ps[i] := by
  unfold rd_L2
  rw [Int.toNat_natCast, List.getD_eq_getElem?_getD, List.getElem?_eq_getElem h]
  rfl
theorem few_loop (a : Int) (ps : List (List Int)) (hn : ps.length < 1000000) : ∀ (d i k : Nat), i + d = ps.length → d < k → foliatelaw04_Few.l0 k (i : Int) a ps = some ((ps.drop i).all fun p => decide (p.length ≤ 300))
  | 0, i, k, hi, hk => by
    obtain ⟨k, rfl⟩ : ∃ q, k = q + 1 := ⟨k - 1, by omega⟩
    rw [foliatelaw04_Few.l0.eq_2, if_neg (by omega), List.drop_of_length_le (by omega)]
    rfl
  | d + 1, i, k, hi, hk => by
    obtain ⟨k, rfl⟩ : ∃ q, k = q + 1 := ⟨k - 1, by omega⟩
    have il : i < ps.length := by omega
    have ew := next_nat i (by omega)
    have ih := few_loop a ps hn d (i + 1) k (by omega) (by omega)
    rw [foliatelaw04_Few.l0.eq_2, if_pos (by omega), if_pos (by omega), rdL2_nat il, ew, ih, List.drop_eq_getElem_cons il, List.all_cons]
    by_cases c : ps[i].length ≤ 300
    · rw [if_neg (by omega), decide_eq_true c, Bool.true_and]
    · rw [if_pos (by omega), decide_eq_false c, Bool.false_and]
theorem few_eq (k : Nat) (a : Int) (ps : List (List Int)) (m : Nat) (hm : m < 1000) (hk : 1001 ≤ k) : foliatelaw04_Few.f k a ps (m : Int) = some (decide (ps.length ≤ m) && ps.all fun p => decide (p.length ≤ 300)) := by
  unfold foliatelaw04_Few.f
  by_cases c : ps.length ≤ m
  · have := few_loop a ps (by omega) ps.length 0 k (by omega) (by omega)
    rw [List.drop_zero] at this
    rw [if_neg (by omega), decide_eq_true c, Bool.true_and]
    exact this
  · rw [if_pos (by omega), decide_eq_false c, Bool.false_and]
theorem few40 (k : Nat) (a : Int) (ps : List (List Int)) (hk : 1001 ≤ k) : foliatelaw04_Few.f k a ps 40 = some (decide (ps.length ≤ 40) && ps.all fun p => decide (p.length ≤ 300)) := few_eq k a ps 40 (by decide) hk
/-- may a flow of these parts be? -/
def mayB (ps : List (List Int)) : Bool := decide (ps.length ≤ 40) && partsOk ps
theorem may_eq (a : Int) (ps : List (List Int)) : flow_May.f a ps = some (mayB ps) := rfl
theorem may_iff {ps : List (List Int)} : mayB ps = true ↔ ps.length ≤ 40 ∧ upto 200 ps := by
  unfold mayB partsOk upto
  rw [Bool.and_eq_true, decide_eq_true_iff, List.all_eq_true]
  simp only [decide_eq_true_iff]
/-! numbers, one behind the other -/
def nums (ns : List Nat) : List Int := (ns.map pb).flatten
theorem nums_cons (n : Nat) (ns : List Nat) : nums (n :: ns) = pb n ++ nums ns := rfl
theorem nums_one (n : Nat) : nums [n] = pb n := by rw [nums_cons]; exact List.append_nil _
theorem rd_cast {ns : List Nat} {i : Nat} (h : i < ns.length) : rd (ns.map fun n : Nat => (n : Int)) (i : Int) = (ns[i] : Int) := by
  unfold rd
  rw [Int.toNat_natCast, List.getD_eq_getElem?_getD, List.getElem?_map, List.getElem?_eq_getElem h]
  rfl
theorem numbers_loop (ns : List Nat) (hb : ∀ n ∈ ns, n < 2 ^ 64) (hl : ns.length < 1000) : ∀ (d i k : Nat) (acc : List Int), i + d = ns.length → acc.length + 10 * d < 1000000 → d + 10 < k → flow_numbers.l0 k acc (ns.map fun n : Nat => (n : Int)) (ns.length : Int) (i : Int) = some (acc ++ nums (ns.drop i))
  | 0, i, k, acc, hi, ha, hk => by
    obtain ⟨k, rfl⟩ : ∃ q, k = q + 1 := ⟨k - 1, by omega⟩
    rw [flow_numbers.l0.eq_2, if_neg (by omega), List.drop_of_length_le (by omega)]
    exact congrArg some (List.append_nil acc).symm
  | d + 1, i, k, acc, hi, ha, hk => by
    obtain ⟨k, rfl⟩ : ∃ q, k = q + 1 := ⟨k - 1, by omega⟩
    have il : i < ns.length := by omega
    have ew := next_nat i (by omega)
    have hp := pb_len ns[i]
    have ih := numbers_loop ns hb hl d (i + 1) k (acc ++ pb ns[i]) (by omega) (by rw [List.length_append]; omega) (by omega)
    have t2 : (i : Int) < ((ns.map fun n : Nat => (n : Int)).length : Int) := by rw [List.length_map]; omega
    rw [flow_numbers.l0.eq_2, if_pos (by omega), if_pos (by omega), if_pos t2, rd_cast il, put_eq ns[i] k (hb _ (List.getElem_mem il)) (by omega), obind, if_pos (by omega), ew, ih, List.drop_eq_getElem_cons il, nums_cons, List.append_assoc]
theorem numbers_eq (k : Nat) (ns : List Nat) (hb : ∀ n ∈ ns, n < 2 ^ 64) (hl : ns.length < 1000) (hk : ns.length + 11 ≤ k) : flow_numbers.f k (ns.map fun n : Nat => (n : Int)) = some (nums ns) := by
  unfold flow_numbers.f
  have := numbers_loop ns hb hl ns.length 0 k [] (by omega) (by simp; omega) (by omega)
  rw [List.length_map]
  exact this
/-! the frames of a flow, and their bytes -/
def bytesF (F : List Fr) : List Int := (F.map fun x => frameB x.f0 x.f1).flatten
theorem bytesF_cons (x : Fr) (F : List Fr) : bytesF (x :: F) = frameB x.f0 x.f1 ++ bytesF F := rfl
theorem bytesF_append (F G : List Fr) : bytesF (F ++ G) = bytesF F ++ bytesF G := by
  induction F with
  | nil => rfl
  | cons x F ih => rw [List.cons_append, bytesF_cons, bytesF_cons, ih, List.append_assoc]
def partsF : Nat → List (List Int) → List Fr
  | _, [] => []
  | i, p :: ps => ⟨2, pb i ++ p⟩ :: partsF (i + 1) ps
theorem partsF_length : ∀ (ps : List (List Int)) (i : Nat), (partsF i ps).length = ps.length
  | [], _ => rfl
  | _ :: ps, i => congrArg (· + 1) (partsF_length ps (i + 1))
def headR (b n : Nat) : Fr := ⟨1, nums [1, b, n]⟩
def tailR (n : Nat) : Fr := ⟨3, pb n⟩
def framesF (b : Nat) (ps : List (List Int)) : List Fr := headR b ps.length :: (partsF 0 ps ++ [tailR ps.length])
theorem framesF_length (b : Nat) (ps : List (List Int)) : (framesF b ps).length = ps.length + 2 := by
  unfold framesF
  rw [List.length_cons, List.length_append, partsF_length]
  rfl
/-- a frame that can be put -/
def okR (x : Fr) : Prop := (0 ≤ x.f0 ∧ x.f0 ≤ 255) ∧ x.f1.length ≤ 255
theorem okR_mk (a : Int) (b : List Int) (h0 : 0 ≤ a) (h1 : a ≤ 255) (hb : b.length ≤ 255) : okR (⟨a, b⟩ : Fr) := ⟨⟨h0, h1⟩, hb⟩
theorem put_l1 (F : List Fr) (hF : ∀ x ∈ F, okR x) (hl : F.length < 1000) : ∀ (d i k : Nat) (acc : List Int), i + d = F.length → acc.length + 265 * d < 100000000 → d + 2 < k → flow_Put.l1 k acc F (F.length : Int) (i : Int) = some (acc ++ bytesF (F.drop i), 0)
  | 0, i, k, acc, hi, ha, hk => by
    obtain ⟨k, rfl⟩ : ∃ q, k = q + 1 := ⟨k - 1, by omega⟩
    rw [flow_Put.l1.eq_2, if_neg (by omega), List.drop_of_length_le (by omega)]
    exact congrArg (fun l => some (l, (0 : Int))) (List.append_nil acc).symm
  | d + 1, i, k, acc, hi, ha, hk => by
    obtain ⟨k, rfl⟩ : ∃ q, k = q + 1 := ⟨k - 1, by omega⟩
    have il : i < F.length := by omega
    have ew := next_nat i (by omega)
    have ho := hF _ (List.getElem_mem il)
    have hlen : (frameB F[i].f0 F[i].f1).length ≤ 265 := by rw [frameB_length]; have := ho.2; omega
    have ih := put_l1 F hF hl d (i + 1) k (acc ++ frameB F[i].f0 F[i].f1) (by omega) (by rw [List.length_append]; omega) (by omega)
    have er : rd_T50 F (i : Int) = F[i] := by
      unfold rd_T50
      rw [Int.toNat_natCast, List.getD_eq_getElem?_getD, List.getElem?_eq_getElem il]
      rfl
    rw [flow_Put.l1.eq_2, if_pos (by omega), if_pos (by omega), if_pos (by omega), er, put_ok k (by omega) _ _ ho.1.1 ho.1.2 ho.2, obind]
    dsimp only
    rw [if_pos (by omega), ew, ih, List.drop_eq_getElem_cons il, bytesF_cons, List.append_assoc]
theorem pb_one {n : Nat} (h : n < 128) : pb n = [(n : Int)] := P_small 9 n h
theorem put_l0 (ps : List (List Int)) (hl : ps.length ≤ 40) (hp : upto 200 ps) : ∀ (d i k : Nat) (acc : List Fr), i + d = ps.length → (∀ x ∈ acc, okR x) → acc.length + d ≤ 50 → d + 70 < k → flow_Put.l0 k (ps.length : Int) acc ps (ps.length : Int) (i : Int) = some (bytesF (acc ++ partsF i (ps.drop i) ++ [tailR ps.length]), 0)
  | 0, i, k, acc, hi, ha, hal, hk => by
    obtain ⟨k, rfl⟩ : ∃ q, k = q + 1 := ⟨k - 1, by omega⟩
    have e1 := numbers_eq k [ps.length] (fun n hn => by rw [List.mem_singleton.1 hn]; omega) (by rw [List.length_singleton]; omega) (by rw [List.length_singleton]; omega)
    rw [nums_one] at e1
    have e2 : flow_numbers.f k ([(ps.length : Int)] : List Int) = some (pb ps.length) := e1
    have hpb := pb_len ps.length
    have e3 := put_l1 (acc ++ [tailR ps.length]) (fun x hx => by
      rcases List.mem_append.1 hx with hx | hx
      · exact ha x hx
      · rw [List.mem_singleton.1 hx]; exact okR_mk 3 _ (by decide) (by decide) (by omega)) (by rw [List.length_append, List.length_singleton]; omega) (acc ++ [tailR ps.length]).length 0 k [] (by omega) (by rw [List.length_append, List.length_singleton, List.length_nil]; omega) (by rw [List.length_append, List.length_singleton]; omega)
    rw [flow_Put.l0.eq_2, if_neg (by omega), e2, obind, if_pos (by omega), obind, List.drop_of_length_le (by omega)]
    show flow_Put.l1 k [] (acc ++ [tailR ps.length]) ((acc ++ [tailR ps.length]).length : Int) ((0 : Nat) : Int) = some (bytesF (acc ++ [] ++ [tailR ps.length]), 0)
    rw [e3, List.append_nil]
    rfl
  | d + 1, i, k, acc, hi, ha, hal, hk => by
    obtain ⟨k, rfl⟩ : ∃ q, k = q + 1 := ⟨k - 1, by omega⟩
    have il : i < ps.length := by omega
    have ew := next_nat i (by omega)
    have e1 := numbers_eq k [i] (fun n hn => by rw [List.mem_singleton.1 hn]; omega) (by rw [List.length_singleton]; omega) (by rw [List.length_singleton]; omega)
    rw [nums_one] at e1
    have e2 : flow_numbers.f k ([IntKind.u64.wrap (i : Int)] : List Int) = some (pb i) := by
      rw [wraps_u64 (i : Int) (by omega) (by omega)]
      exact e1
    have hpi : (pb i).length = 1 := by rw [pb_one (by omega)]; rfl
    have hp2 := hp _ (List.getElem_mem il)
    have ih := put_l0 ps hl hp d (i + 1) k (acc ++ [⟨2, pb i ++ ps[i]⟩]) (by omega) (fun x hx => by
      rcases List.mem_append.1 hx with hx | hx
      · exact ha x hx
      · rw [List.mem_singleton.1 hx]; exact okR_mk 2 _ (by decide) (by decide) (by rw [List.length_append]; omega)) (by rw [List.length_append, List.length_singleton]; omega) (by omega)
    rw [flow_Put.l0.eq_2, if_pos (by omega), if_pos (by omega), if_pos (by omega), e2, obind, rdL2_nat il, if_pos (by omega), if_pos (by omega), ew, ih, List.drop_eq_getElem_cons il]
    show some (bytesF (acc ++ [⟨2, pb i ++ ps[i]⟩] ++ partsF (i + 1) (ps.drop (i + 1)) ++ [tailR ps.length]), (0 : Int)) = some (bytesF (acc ++ (⟨2, pb i ++ ps[i]⟩ :: partsF (i + 1) (ps.drop (i + 1))) ++ [tailR ps.length]), 0)
    rw [List.append_assoc acc, List.singleton_append]
/-- a flow's bytes -/
def flowB (b : Nat) (ps : List (List Int)) : List Int := bytesF (framesF b ps)
theorem head_len {b n : Nat} (_hb : b < 2 ^ 32) (hn : n ≤ 40) : (nums [1, b, n]).length ≤ 22 := by
  have h1 := pb_len 1
  have h2 := pb_len b
  have h3 := pb_len n
  have e : pb 1 = [1] := pb_one (by decide)
  have e3 : pb n = [(n : Int)] := pb_one (by omega)
  rw [nums_cons, nums_cons, nums_one, List.length_append, List.length_append, e3, e]
  simp only [List.length_singleton]
  omega
theorem put_flow (k : Nat) (hk : 200 ≤ k) (b : Nat) (hb : b < 2 ^ 32) (ps : List (List Int)) (hm : mayB ps = true) : flow_Put.f k (b : Int) ps = some (flowB b ps, 0) := by
  obtain ⟨hl, hp⟩ := may_iff.1 hm
  unfold flow_Put.f
  have e1 := numbers_eq k [1, b, ps.length] (fun n hn => by
    simp only [List.mem_cons, List.not_mem_nil, or_false] at hn
    rcases hn with rfl | rfl | rfl <;> omega) (by show 3 < 1000; decide) (by show 3 + 11 ≤ k; omega)
  have e2 : flow_numbers.f k ([1, IntKind.u64.wrap (b : Int), IntKind.u64.wrap (ps.length : Int)] : List Int) = some (nums [1, b, ps.length]) := by
    rw [wraps_u64 (b : Int) (by omega) (by omega), wraps_u64 (ps.length : Int) (by omega) (by omega)]
    exact e1
  have e3 := put_l0 ps hl hp ps.length 0 k [headR b ps.length] (by omega) (fun x hx => by
    rw [List.mem_singleton.1 hx]
    have := head_len hb hl; exact okR_mk 1 _ (by decide) (by decide) (by omega)) (by rw [List.length_singleton]; omega) (by omega)
  rw [may_eq, hm, obind, if_pos rfl, e2, obind, wraps_u64 (ps.length : Int) (by omega) (by omega)]
  exact e3
theorem put_not (k : Nat) (a : Int) (ps : List (List Int)) (hm : mayB ps = false) : flow_Put.f k a ps = some ([], 1) := by
  unfold flow_Put.f
  rw [may_eq, hm, obind, if_neg (by decide)]
end Go.Proofs.YtknkncdlcoglpaaDoor.FrFlow
