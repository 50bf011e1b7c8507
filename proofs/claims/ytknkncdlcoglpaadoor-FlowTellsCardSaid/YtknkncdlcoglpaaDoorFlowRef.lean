import Derived.Test.YtknkncdlcoglpaaDoorFlowMore
import Derived.Test.YtknkncdlcoglpaaDoorRef01
import Derived.Test.YtknkncdlcoglpaaDoorRef03
import Derived.Test.YtknkncdlcoglpaaDoorPAllx11
import Derived.Test.YtknkncdlcoglpaaDoorPAllx11
import Derived.Test.YtknkncdlcoglpaaDoorPAllx12
import Derived.Test.YtknkncdlcoglpaaDoorPAllx12
import Derived.Test.YtknkncdlcoglpaaDoorPAllx9
import Derived.Test.YtknkncdlcoglpaaDoorPAllx7
namespace Go.Proofs.YtknkncdlcoglpaaDoor.Flow
open Go.RowKit Go.Proofs.YtknkncdlcoglpaaDoor.PAll Go.Proofs.YtknkncdlcoglpaaDoorW.PrintWords Go.Proofs.YtknkncdlcoglpaaDoorW.PrintLast Go.Proofs.YtknkncdlcoglpaaDoor.Vari
open Go.Proofs.YtknkncdlcoglpaaDoor.Frame (frameB frameB_length allL allf_eq allL_frame allL_nil frame_bytes put_ok next_nat rput_ok rall_eq)
/-! The document's reckoning of flows, told plainly: it is the same. -/
theorem rmay_loop (a : Int) (ps : List (List Int)) (hn : ps.length < 1000000) : ∀ (d i k : Nat), i + d = ps.length → d < k → foliateref04_May.l0 k (i : Int) a ps = some (((ps.drop i).all fun p => decide (p.length ≤ 200)) && decide (ps.length ≤ 40))
  | 0, i, k, hi, hk => by
    obtain ⟨k, rfl⟩ : ∃ q, k = q + 1 := ⟨k - 1, by omega⟩
    rw [foliateref04_May.l0.eq_2, if_neg (by omega), List.drop_of_length_le (by omega), List.all_nil, Bool.true_and]
    congr 1
    exact decide_eq_decide.2 (by omega)
  | d + 1, i, k, hi, hk => by
    obtain ⟨k, rfl⟩ : ∃ q, k = q + 1 := ⟨k - 1, by omega⟩
    have il : i < ps.length := by omega
    have ew := next_nat i (by omega)
    have ih := rmay_loop a ps hn d (i + 1) k (by omega) (by omega)
    rw [foliateref04_May.l0.eq_2, if_pos (by omega), if_pos (by omega), rdL2_nat il, ew, ih, List.drop_eq_getElem_cons il, List.all_cons]
    by_cases c : ps[i].length ≤ 200
    · rw [if_neg (by omega), decide_eq_true c, Bool.true_and]
    · rw [if_pos (by omega), decide_eq_false c, Bool.false_and, Bool.false_and]
theorem rmay_eq (k : Nat) (a : Int) (ps : List (List Int)) (hn : ps.length < 1000000) (hk : ps.length < k) : foliateref04_May.f k a ps = some (mayB ps) := by
  unfold foliateref04_May.f
  have h := rmay_loop a ps hn ps.length 0 k (by omega) hk
  rw [List.drop_zero] at h
  have e : (ps.all fun p => decide (p.length ≤ 200)) = partsOk ps := rfl
  rw [e, Bool.and_comm] at h
  exact h
theorem rframes_loop (a : Int) (ps : List (List Int)) (hl : ps.length ≤ 40) (hp : upto 200 ps) (many : List Int) : ∀ (d i k : Nat) (acc : List Fr), i + d = ps.length → acc.length + d ≤ 100 → d + 20 < k → foliateref04_frames.l0 k many acc (i : Int) a ps = some (acc ++ partsF i (ps.drop i) ++ [⟨3, many⟩])
  | 0, i, k, acc, hi, ha, hk => by
    obtain ⟨k, rfl⟩ : ∃ q, k = q + 1 := ⟨k - 1, by omega⟩
    rw [foliateref04_frames.l0.eq_2, if_neg (by omega), if_pos (by omega), List.drop_of_length_le (by omega)]
    show _ = some (acc ++ [] ++ [_])
    rw [List.append_nil]
  | d + 1, i, k, acc, hi, ha, hk => by
    obtain ⟨k, rfl⟩ : ∃ q, k = q + 1 := ⟨k - 1, by omega⟩
    have il : i < ps.length := by omega
    have ew := next_nat i (by omega)
    have hp2 := hp _ (List.getElem_mem il)
    have hpi := pb_len i
    have ih := rframes_loop a ps hl hp many d (i + 1) k (acc ++ [⟨2, pb i ++ ps[i]⟩]) (by omega) (by rw [List.length_append, List.length_singleton]; omega) (by omega)
    rw [foliateref04_frames.l0.eq_2, if_pos (by omega), wraps_u64 (i : Int) (by omega) (by omega), rput_eq i k (by omega) (by omega), obind, rdL2_nat il, if_pos (by omega), if_pos (by omega), if_pos (by omega), ew, ih, List.drop_eq_getElem_cons il]
    show some (acc ++ [⟨2, pb i ++ ps[i]⟩] ++ partsF (i + 1) (ps.drop (i + 1)) ++ [(⟨3, many⟩ : Fr)]) = some (acc ++ (⟨2, pb i ++ ps[i]⟩ :: partsF (i + 1) (ps.drop (i + 1))) ++ [⟨3, many⟩])
    rw [List.append_assoc acc, List.singleton_append]
theorem rframes_eq (k : Nat) (hk : 100 ≤ k) (b : Nat) (hb : b < 2 ^ 32) (ps : List (List Int)) (hm : mayB ps = true) : foliateref04_frames.f k (b : Int) ps = some (framesF b ps) := by
  obtain ⟨hl, hp⟩ := may_iff.1 hm
  unfold foliateref04_frames.f
  have h1 := pb_len 1
  have h2 := pb_len b
  have h3 := pb_len ps.length
  have e1 : foliateref01_Put.f k 1 = some (pb 1) := rput_eq 1 k (by decide) (by omega)
  have e4 := rframes_loop (b : Int) ps hl hp (pb ps.length) ps.length 0 k [⟨1, pb 1 ++ pb b ++ pb ps.length⟩] (by omega) (by rw [List.length_singleton]; omega) (by omega)
  rw [wraps_u64 (ps.length : Int) (by omega) (by omega), rput_eq ps.length k (by omega) (by omega), obind, e1, obind, wraps_u64 (b : Int) (by omega) (by omega), rput_eq b k (by omega) (by omega), obind, if_pos (by omega), obind, if_pos (by rw [List.length_append]; omega)]
  refine Eq.trans e4 ?_
  rw [List.drop_zero]
  unfold framesF headR
  rw [nums_cons, nums_cons, nums_one, List.append_assoc, List.append_assoc]
  rfl
theorem step_fuel {d k : Nat} (h : d + 1 + 3002 < k + 1) : d + 3002 < k := by omega
theorem rput_l0 (F : List Fr) (hF : ∀ x ∈ F, okR x ∧ Bytes x.f1) (hl : F.length < 1000) : ∀ (d i k : Nat) (acc : List Int), i + d = F.length → acc.length + 265 * d < 100000000 → d + 3002 < k → foliateref04_Put.l0 k acc F (i : Int) = some (acc ++ bytesF (F.drop i), 0)
  | 0, i, k, acc, hi, ha, hk => by
    obtain ⟨k, rfl⟩ : ∃ q, k = q + 1 := ⟨k - 1, by omega⟩
    rw [foliateref04_Put.l0.eq_2, if_neg (by omega), List.drop_of_length_le (by omega)]
    exact congrArg (fun l => some (l, (0 : Int))) (List.append_nil acc).symm
  | d + 1, i, k, acc, hi, ha, hk => by
    obtain ⟨k, rfl⟩ : ∃ q, k = q + 1 := ⟨k - 1, by omega⟩
    have il : i < F.length := by omega
    have ew := next_nat i (by omega)
    have ho := hF _ (List.getElem_mem il)
    have hlen : (frameB F[i].f0 F[i].f1).length ≤ 265 := by rw [frameB_length]; have := ho.1.2; omega
    have hk2 : d + 3002 < k := step_fuel hk
    have hi2 : i + 1 + d = F.length := by omega
    have ha2 : (acc ++ frameB F[i].f0 F[i].f1).length + 265 * d < 100000000 := by rw [List.length_append]; omega
    have ih := rput_l0 F hF hl d (i + 1) k (acc ++ frameB F[i].f0 F[i].f1) hi2 ha2 hk2
    have er : rd_T50 F (i : Int) = F[i] := by
      unfold rd_T50
      rw [Int.toNat_natCast, List.getD_eq_getElem?_getD, List.getElem?_eq_getElem il]
      rfl
    rw [foliateref04_Put.l0.eq_2, if_pos (by omega), if_pos (by omega), er, rput_ok k (by omega) _ _ ho.1.1.1 ho.1.1.2 ho.1.2 ho.2, obind]
    dsimp only
    rw [if_pos (by omega), ew, ih, List.drop_eq_getElem_cons il, bytesF_cons, List.append_assoc]
theorem rput_flow (k : Nat) (hk : 3200 ≤ k) (b : Nat) (hb : b < 2 ^ 32) (ps : List (List Int)) (hp : BytesP ps) (hm : mayB ps = true) : foliateref04_Put.f k (b : Int) ps = some (flowB b ps, 0) := by
  have hl := (may_iff.1 hm).1
  have hn := framesF_length b ps
  unfold foliateref04_Put.f
  rw [rmay_eq k _ ps (by omega) (by omega), hm, obind, if_pos rfl, rframes_eq k (by omega) b hb ps hm, obind]
  exact rput_l0 (framesF b ps) (framesF_ok hb hp hm) (by omega) (framesF b ps).length 0 k [] (by omega) (by rw [List.length_nil]; omega) (by omega)
theorem rput_not (k : Nat) (a : Int) (ps : List (List Int)) (hn : ps.length < 1000000) (hk : ps.length < k) (hm : mayB ps = false) : foliateref04_Put.f k a ps = some ([], 1) := by
  unfold foliateref04_Put.f
  rw [rmay_eq k _ ps hn hk, hm, obind, if_neg (by decide)]
/-! what the document reads -/
def cutQ (x : Fr) : List Int := x.f1.drop (g 0 0 x.f1).2.toNat
def rbase : List Fr → Int
  | [] => 0
  | x :: _ => (g 0 0 (cutQ x)).1 % 4294967296
def rparts (F : List Fr) : List (List Int) := (F.drop 1).dropLast.map cutQ
def finQ (k : Nat) (l : List Int) (a : Int) (ps : List (List Int)) : Option (Int × List (List Int) × Int) := (foliateref04_Put.f k a ps).bind fun bt => (if bt.2 = 0 then (if (strOfNums bt.1).toList = (strOfNums l).toList then (some (a, ps, 0)) else (some (0, ([] : List (List Int)), 4))) else (some (0, ([] : List (List Int)), 4)))
theorem wrap_pre (n : Nat) (h : n < 1000000) (h1 : 1 ≤ n) : wrap64 ((n : Int) - 1) = ((n - 1 : Nat) : Int) := by unfold wrap64; omega
theorem rget_loop (l : List Int) (F : List Fr) (hF : ∀ x ∈ F, okR x ∧ Bytes x.f1) (hl : F.length < 100000) : ∀ (d i k : Nat) (a : Int) (acc : List (List Int)), 1 ≤ i → i + d = F.length → acc.length + d < 200000 → 600 ≤ k → foliateref04_Get.l0 (k + d + 1) l F (i : Int) a acc = finQ k l a (acc ++ (F.drop i).dropLast.map cutQ)
  | 0, i, k, a, acc, h1, hi, ha, hk => by
    rw [Nat.add_zero, foliateref04_Get.l0.eq_2, if_neg (by omega), List.drop_of_length_le (by omega)]
    show _ = finQ k l a (acc ++ [])
    rw [List.append_nil]
    rfl
  | d + 1, i, k, a, acc, h1, hi, ha, hk => by
    have il : i < F.length := by omega
    have ew := next_nat i (by omega)
    have ho := hF _ (List.getElem_mem il)
    have hle := g_le _ ho.2
    have er : rd_T50 F (i : Int) = F[i] := by
      unfold rd_T50
      rw [Int.toNat_natCast, List.getD_eq_getElem?_getD, List.getElem?_eq_getElem il]
      rfl
    have ek : k + (d + 1) = (k + d) + 1 := by omega
    rw [foliateref04_Get.l0.eq_2, if_pos (by omega), if_pos (by omega), er, Vari.rget_eq _ _ ho.2 (by have := ho.1.2; omega) (by have := ho.1.2; omega), obind]
    rw [if_neg (by omega), wrap_pre F.length (by omega) (by omega), ek, ew]
    by_cases c : i + 1 < F.length
    · have ih := rget_loop l F hF hl d (i + 1) k a (acc ++ [cutQ F[i]]) (by omega) (by omega) (by rw [List.length_append, List.length_singleton]; omega) hk
      rw [if_pos (by omega), if_pos (by omega), if_pos (by omega), if_pos (by omega)]
      refine Eq.trans ih ?_
      have hne : F.drop (i + 1) ≠ [] := fun hh => by
        have := congrArg List.length hh
        rw [List.length_drop, List.length_nil] at this
        omega
      rw [List.drop_eq_getElem_cons il, List.dropLast_cons_of_ne_nil hne, List.map_cons, List.append_assoc]
      rfl
    · have ih := rget_loop l F hF hl d (i + 1) k a acc (by omega) (by omega) (by omega) hk
      rw [if_neg (by omega)]
      refine Eq.trans ih ?_
      rw [List.drop_eq_getElem_cons il, List.drop_of_length_le (show F.length ≤ i + 1 by omega)]
      rfl
theorem rget_F (l : List Int) (F : List Fr) (hF : ∀ x ∈ F, okR x ∧ Bytes x.f1) (hl : F.length < 100000) (k : Nat) (hk : 600 ≤ k) : foliateref04_Get.l0 (k + F.length + 1) l F 0 0 [] = finQ k l (rbase F) (rparts F) := by
  match F, hF, hl with
  | [], _, _ => rfl
  | x :: F, hF, hl =>
    have ho := hF x List.mem_cons_self
    have hle := g_le _ ho.2
    have er : rd_T50 (x :: F) 0 = x := rfl
    have hb2 : Bytes (cutQ x) := ho.2.drop _
    have hl2 : (cutQ x).length ≤ 255 := by unfold cutQ; rw [List.length_drop]; have := ho.1.2; omega
    have h := rget_loop l (x :: F) hF hl F.length 1 k (rbase (x :: F)) [] (Nat.le_refl _) (by rw [List.length_cons]; omega) (by rw [List.length_nil]; rw [List.length_cons] at hl; omega) hk
    have e0 : (0 : Int) < ((x :: F).length : Int) := by rw [List.length_cons]; omega
    have ew : wrap64 ((0 : Int) + 1) = ((1 : Nat) : Int) := by unfold wrap64; omega
    have eg := Vari.rget_eq (cutQ x) (k + (x :: F).length) hb2 (by omega) (by omega)
    unfold cutQ at eg
    rw [foliateref04_Get.l0.eq_2, if_pos e0, if_pos (Int.le_refl _), er, Vari.rget_eq _ _ ho.2 (by have := ho.1.2; omega) (by have := ho.1.2; omega), obind]
    rw [if_pos rfl, if_pos hle.2.1, if_pos hle.1, eg, obind, ew]
    exact h
theorem rbase_lt (F : List Fr) : ∃ n : Nat, rbase F = (n : Int) ∧ n < 2 ^ 32 := by
  match F with
  | [] => exact ⟨0, rfl, by decide⟩
  | x :: F =>
    have h : rbase (x :: F) = (g 0 0 (cutQ x)).1 % 4294967296 := rfl
    exact ⟨(rbase (x :: F)).toNat, by rw [h]; omega, by rw [h]; omega⟩
theorem rparts_bytes {F : List Fr} (hF : ∀ x ∈ F, okR x ∧ Bytes x.f1) : BytesP (rparts F) := fun p hp => by
  obtain ⟨x, hx, rfl⟩ := List.mem_map.1 hp
  exact (hF x (List.mem_of_mem_drop (List.dropLast_subset _ hx))).2.drop _
theorem cutQ_part (i : Nat) (p : List Int) (hi : i < 2 ^ 64) : cutQ ⟨2, pb i ++ p⟩ = p := by
  show (pb i ++ p).drop (g 0 0 (pb i ++ p)).2.toNat = p
  rw [g_pb i p hi]
  show (pb i ++ p).drop ((pb i).length : Int).toNat = p
  rw [Int.toNat_natCast, List.drop_left]
theorem cutQ_parts : ∀ (ps : List (List Int)) (i : Nat), i + ps.length < 1000 → (partsF i ps).map cutQ = ps
  | [], _, _ => rfl
  | p :: ps, i, h => by
    rw [List.length_cons] at h
    show cutQ ⟨2, pb i ++ p⟩ :: (partsF (i + 1) ps).map cutQ = _
    rw [cutQ_part i p (by omega), cutQ_parts ps (i + 1) (by omega)]
theorem rbase_flow {b : Nat} (hb : b < 2 ^ 32) (ps : List (List Int)) : rbase (framesF b ps) = (b : Int) := by
  have e : cutQ (headR b ps.length) = pb b ++ nums [ps.length] := by
    show (pb 1 ++ (pb b ++ nums [ps.length])).drop (g 0 0 (pb 1 ++ (pb b ++ nums [ps.length]))).2.toNat = _
    rw [g_pb 1 _ (by decide)]
    show (pb 1 ++ (pb b ++ nums [ps.length])).drop ((pb 1).length : Int).toNat = _
    rw [Int.toNat_natCast, List.drop_left]
  show (g 0 0 (cutQ (headR b ps.length))).1 % 4294967296 = (b : Int)
  rw [e, g_pb b _ (by omega)]
  show (b : Int) % 4294967296 = b
  omega
theorem rparts_flow (b : Nat) {ps : List (List Int)} (h : ps.length ≤ 40) : rparts (framesF b ps) = ps := by
  show ((partsF 0 ps ++ [tailR ps.length]).dropLast).map cutQ = ps
  rw [List.dropLast_concat, cutQ_parts ps 0 (by omega)]
theorem fin_eq (k : Nat) (hk : 100000 ≤ k) (l : List Int) (hl : Bytes l) (n : Nat) (hn : n < 2 ^ 32) (ps : List (List Int)) (hp : BytesP ps) (hps : ps.length < 90000) : finQ k l (n : Int) ps = some (if mayB ps = true ∧ flowB n ps = l then ((n : Int), ps, 0) else (0, [], 4)) := by
  unfold finQ
  by_cases cm : mayB ps = true
  · rw [rput_flow k (by omega) n hn ps hp cm, obind]
    dsimp only
    rw [if_pos rfl]
    by_cases c : flowB n ps = l
    · rw [if_pos (by rw [c]), if_pos ⟨cm, c⟩]
    · rw [if_neg (fun hh => c (str_inj0 (flowB_bytes hn hp cm) hl hh)), if_neg (fun hh => c hh.2)]
  · have cf : mayB ps = false := by simpa using cm
    rw [rput_not k _ ps (by omega) (by omega) cf, obind]
    dsimp only
    rw [if_neg (by decide), if_neg (fun hh => cm hh.1)]
theorem stepR (n : Nat) : ∀ (X : List Fr) (i : Nat) (many base : Int) (ps : List (List Int)), (readQ n i many base ps X).1 = 0 ∨ (readQ n i many base ps X).1 = 4
  | [], _, _, _, _ => .inl rfl
  | x :: X, i, many, base, ps => by
    rw [readQ_cons]
    by_cases c : x.f0 = kindQ i n
    · rw [if_pos c]
      cases stepQ (kindQ i n) x.f1 many base ps with
      | none => exact .inr rfl
      | some t => exact stepR n X (i + 1) t.1 t.2.1 t.2.2
    · rw [if_neg c]
      exact .inr rfl
theorem getQ_four {l : List Int} (h : (allL l).2 = 0) (h2 : (getQ l).2.2 ≠ 0) : getQ l = (0, [], 4) := by
  unfold getQ at h2 ⊢
  rw [if_pos h] at h2 ⊢
  by_cases c : (allL l).1.length < 2
  · rw [if_pos c]
  · rw [if_neg c] at h2 ⊢
    by_cases c2 : (readQ (allL l).1.length 0 0 0 [] (allL l).1).1 = 0
    · rw [if_pos c2] at h2 ⊢
      by_cases c3 : mayB (readQ (allL l).1.length 0 0 0 [] (allL l).1).2.2 = true
      · rw [if_pos c3] at h2
        exact absurd rfl h2
      · rw [if_neg c3]
    · rw [if_neg c2]
      rw [(stepR (allL l).1.length (allL l).1 0 0 0 []).resolve_left c2]
theorem rget_flow (k : Nat) (l : List Int) (hb : Bytes l) (hl : l.length ≤ 2000) (hk : 110000 ≤ k) : foliateref04_Get.f k l = some (getQ l) := by
  unfold foliateref04_Get.f
  rw [rall_eq k (by omega) l hb (by omega), obind]
  by_cases c : (allL l).2 = 0
  · obtain ⟨h1, h2, h3⟩ := allL_ok (l.length + 1) l (Nat.lt_succ_self _) hb c
    obtain ⟨q, rfl⟩ : ∃ q, k = q + (allL l).1.length + 1 := ⟨k - (allL l).1.length - 1, by omega⟩
    obtain ⟨n, e, hn⟩ := rbase_lt (allL l).1
    have hpl : (rparts (allL l).1).length ≤ (allL l).1.length := by
      unfold rparts
      rw [List.length_map, List.length_dropLast, List.length_drop]
      omega
    rw [if_pos c, rget_F l (allL l).1 h1 (by omega) q (by omega), e, fin_eq q (by omega) l hb n hn _ (rparts_bytes h1) (by omega)]
    by_cases c2 : (getQ l).2.2 = 0
    · obtain ⟨b, ps, g1, g2, g3, g4, g5⟩ := getQ_inv hb c2
      have ea : (allL l).1 = framesF b ps := by rw [g4, allL_flow g1 g2 g3]
      have e1 : (n : Int) = (b : Int) := by rw [← e, ea, rbase_flow g1]
      have e2 : rparts (allL l).1 = ps := by rw [ea, rparts_flow b (may_iff.1 g3).1]
      obtain rfl : n = b := by omega
      rw [e2, if_pos ⟨g3, g4.symm⟩, g5]
    · rw [if_neg, getQ_four c c2]
      rintro ⟨m1, m2⟩
      have := get_put hn (rparts_bytes h1) m1
      rw [m2] at this
      rw [this] at c2
      exact c2 rfl
  · rw [if_neg c]
    unfold getQ
    rw [if_neg c]
/-! cuts, lists, and what is the same -/
theorem rcut_sum (at_ n : Nat) (h : at_ + n < 100000000) : wrap64 ((wrap64 ((at_ : Int) + (n : Int))) + 10) = ((at_ + n + 10 : Nat) : Int) := by
  have e1 : wrap64 ((at_ : Int) + (n : Int)) = ((at_ + n : Nat) : Int) := by unfold wrap64; omega
  rw [e1]
  unfold wrap64
  omega
theorem rcuts_loop (F : List Fr) (hF : ∀ x ∈ F, x.f1.length ≤ 255) (hl : F.length < 100000) : ∀ (d i k : Nat) (acc : List Int) (at_ : Nat), i + d = F.length → acc.length + d < 1000000 → at_ + 265 * d < 100000000 → d < k → foliateref04_Cuts.l0 k acc (at_ : Int) F (i : Int) = some (acc ++ (cutsFrom at_ (F.drop i)).map (fun n : Nat => (n : Int)), true)
  | 0, i, k, acc, at_, hi, ha, hb, hk => by
    obtain ⟨k, rfl⟩ : ∃ q, k = q + 1 := ⟨k - 1, by omega⟩
    rw [foliateref04_Cuts.l0.eq_2, if_neg (by omega), List.drop_of_length_le (by omega)]
    exact congrArg (fun l => some (l, true)) (List.append_nil acc).symm
  | d + 1, i, k, acc, at_, hi, ha, hb, hk => by
    obtain ⟨k, rfl⟩ : ∃ q, k = q + 1 := ⟨k - 1, by omega⟩
    have il : i < F.length := by omega
    have hf := hF _ (List.getElem_mem il)
    have t0 : (i : Int) < (F.length : Int) := by omega
    have t1 : (0 : Int) ≤ (i : Int) := by omega
    have t3 : acc.length < 17592186044416 := by omega
    have ih := rcuts_loop F hF hl d (i + 1) k (acc ++ [((at_ + F[i].f1.length + 10 : Nat) : Int)]) (at_ + F[i].f1.length + 10) (by omega) (by rw [List.length_append, List.length_singleton]; omega) (by omega) (by omega)
    have er : rd_T50 F (i : Int) = F[i] := by
      unfold rd_T50
      rw [Int.toNat_natCast, List.getD_eq_getElem?_getD, List.getElem?_eq_getElem il]
      rfl
    have es := rcut_sum at_ F[i].f1.length (by omega)
    have ew := next_nat i (by omega)
    rw [foliateref04_Cuts.l0.eq_2, if_pos t0, if_pos t1, if_pos t3, er, es, ew, ih, List.drop_eq_getElem_cons il, List.append_assoc]
    rfl
theorem rcuts_eq (k : Nat) (l : List Int) (hb : Bytes l) (hl : l.length ≤ 2000) (hk : 110000 ≤ k) : foliateref04_Cuts.f k l = some (if (getQ l).2.2 = 0 then (cutsL (allL l).1, true) else ([], false)) := by
  unfold foliateref04_Cuts.f
  rw [rget_flow k l hb hl hk, obind]
  by_cases c : (getQ l).2.2 = 0
  · have c0 : (allL l).2 = 0 := by
      by_cases c1 : (allL l).2 = 0
      · exact c1
      · unfold getQ at c
        rw [if_neg c1] at c
        exact absurd c c1
    obtain ⟨h1, h2, h3⟩ := allL_ok (l.length + 1) l (Nat.lt_succ_self _) hb c0
    rw [if_pos c, if_pos c, rall_eq k (by omega) l hb (by omega), obind]
    exact rcuts_loop (allL l).1 (fun x hx => (h1 x hx).1.2) (by omega) (allL l).1.length 0 k [0] 0 (by omega) (by rw [List.length_singleton]; omega) (by omega) (by omega)
  · rw [if_neg c, if_neg c]
theorem rints_loop (l : List Int) (hl : l.length < 1000000) : ∀ (d i k : Nat), i + d = l.length → d < k → foliateref04_Ints.l0 k l l (i : Int) = some true
  | 0, i, k, hi, hk => by
    obtain ⟨k, rfl⟩ : ∃ q, k = q + 1 := ⟨k - 1, by omega⟩
    rw [foliateref04_Ints.l0.eq_2, if_neg (by omega)]
  | d + 1, i, k, hi, hk => by
    obtain ⟨k, rfl⟩ : ∃ q, k = q + 1 := ⟨k - 1, by omega⟩
    have ew := next_nat i (by omega)
    have ih := rints_loop l hl d (i + 1) k (by omega) (by omega)
    rw [foliateref04_Ints.l0.eq_2, if_pos (by omega), if_pos (by omega), if_pos (by omega), if_pos rfl, ew]
    exact ih
theorem rints_eq (k : Nat) (l : List Int) (hl : l.length < 1000000) (hk : l.length < k) : foliateref04_Ints.f k l l = some true := by
  unfold foliateref04_Ints.f
  rw [if_pos rfl]
  exact rints_loop l hl l.length 0 k (by omega) hk
theorem rsame_loop (a b : Int) (l m : List (List Int)) (hl : l.length = m.length) (hn : l.length < 1000000) (h1 : BytesP l) (h2 : BytesP m) : ∀ (d i k : Nat), i + d = l.length → d < k → foliateref04_Same.l0 k (i : Int) a l b m = some (decide (l.drop i = m.drop i))
  | 0, i, k, hi, hk => by
    obtain ⟨k, rfl⟩ : ∃ q, k = q + 1 := ⟨k - 1, by omega⟩
    rw [foliateref04_Same.l0.eq_2, if_neg (by omega), List.drop_of_length_le (by omega), List.drop_of_length_le (by omega), decide_eq_true rfl]
  | d + 1, i, k, hi, hk => by
    obtain ⟨k, rfl⟩ : ∃ q, k = q + 1 := ⟨k - 1, by omega⟩
    have il : i < l.length := by omega
    have im : i < m.length := by omega
    have ew := next_nat i (by omega)
    have ih := rsame_loop a b l m hl hn h1 h2 d (i + 1) k (by omega) (by omega)
    rw [foliateref04_Same.l0.eq_2, if_pos (by omega), if_pos (by omega), if_pos (by omega), rdL2_nat il, rdL2_nat im, ew, ih, List.drop_eq_getElem_cons il, List.drop_eq_getElem_cons im]
    by_cases c : l[i] = m[i]
    · rw [if_pos (by rw [c])]
      congr 1
      exact decide_eq_decide.2 ⟨fun h => by rw [c, h], fun h => (List.cons.inj h).2⟩
    · rw [if_neg (fun hh => c (str_inj0 (h1 _ (List.getElem_mem il)) (h2 _ (List.getElem_mem im)) hh)), decide_eq_false (fun hh => c (List.cons.inj hh).1)]
theorem rsame_flow (k : Nat) (a b : Int) (l m : List (List Int)) (hn : l.length < 1000000) (hk : l.length + 2 ≤ k) (h1 : BytesP l) (h2 : BytesP m) : foliateref04_Same.f k a l b m = some (decide (a = b ∧ l = m)) := by
  unfold foliateref04_Same.f
  obtain ⟨k, rfl⟩ : ∃ q, k = q + 1 := ⟨k - 1, by omega⟩
  by_cases c : a = b
  · rw [if_pos c, foliateref04_Same.j0.eq_2]
    by_cases c2 : l.length = m.length
    · have e : (((l.length : Nat) : Int) != ((m.length : Nat) : Int)) = false := by rw [c2]; exact bne_self_eq_false _
      rw [e, if_neg (by decide)]
      refine (rsame_loop a b l m c2 hn h1 h2 l.length 0 k (by omega) (by omega)).trans ?_
      simp [c]
    · have e : (((l.length : Nat) : Int) != ((m.length : Nat) : Int)) = true := bne_iff_ne.2 (fun hh => c2 (by omega))
      rw [e, if_pos rfl, decide_eq_false (fun hh => c2 (by rw [hh.2]))]
  · rw [if_neg c, foliateref04_Same.j0.eq_2, if_pos rfl, decide_eq_false (fun hh => c hh.1)]
end Go.Proofs.YtknkncdlcoglpaaDoor.Flow
