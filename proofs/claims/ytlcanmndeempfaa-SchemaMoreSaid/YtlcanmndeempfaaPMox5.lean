-- Written by wip/tools/myprint.py, a program of the prover's own, over the kit's print; the contracts named 'HAND' there are typed by hand.
import Derived.Test.YtlcanmndeempfaaPMox0
import Derived.Test.YtlcanmndeempfaaPMox2
import Derived.Test.YtlcanmndeempfaaPMox3
import Derived.Test.YtlcanmndeempfaaPMox4
namespace Go.Proofs.Ytlcanmndeempfaa.PMo
open Go.RowKit Go.Proofs.YtlcanmndeempfaaW.PrintWords Go.Proofs.YtlcanmndeempfaaW.PrintLast Go.Proofs.YtlcanmndeempfaaW.PrintMore
attribute [local go_sem] max2_int min2_int max_two min_two max_three min_three max_four min_four   -- for this text's walks alone
set_option linter.unusedVariables false
set_option linter.unusedSimpArgs false

/-! ### schema_reader_end: function 43 -/
def kinds5 : List ByteArray := [⟨#[105, 56]⟩, ⟨#[105, 49, 54]⟩, ⟨#[105, 51, 50]⟩, ⟨#[105, 54, 52]⟩, ⟨#[116]⟩]
def idxK (w : ByteArray) : Int := placeOf (fun y : ByteArray => decide (w.toList = y.toList)) kinds5 0
theorem index_loop (l : List ByteArray) (x : ByteArray) (hn : l.length < 1000000) : ∀ (d i k : Nat), i + d = l.length → d < k → slices_Index_string_string.l0 k l x (l.length : Int) (i : Int) = some (placeOf (fun y : ByteArray => decide (x.toList = y.toList)) (l.drop i) i)
  | 0, i, k, hi, hk => by
    obtain ⟨k, rfl⟩ : ∃ q, k = q + 1 := ⟨k - 1, by omega⟩
    rw [slices_Index_string_string.l0.eq_2, if_neg (by omega), List.drop_of_length_le (by omega)]
    rfl
  | d + 1, i, k, hi, hk => by
    obtain ⟨k, rfl⟩ : ∃ q, k = q + 1 := ⟨k - 1, by omega⟩
    have il : i < l.length := by omega
    have ew : wrap64 ((i : Int) + 1) = ((i + 1 : Nat) : Int) := by unfold wrap64; omega
    have ih := index_loop l x hn d (i + 1) k (by omega) (by omega)
    have er : rdOf ByteArray.empty l (i : Int) = l[i] := by
      unfold rdOf
      rw [Int.toNat_natCast, List.getD_eq_getElem?_getD, List.getElem?_eq_getElem il]
      rfl
    have ep : placeOf (fun y : ByteArray => decide (x.toList = y.toList)) (l.drop i) i = if x.toList = l[i].toList then (i : Int) else placeOf (fun y : ByteArray => decide (x.toList = y.toList)) (l.drop (i + 1)) (i + 1) := by
      rw [List.drop_eq_getElem_cons il]
      show (if decide (x.toList = l[i].toList) = true then (i : Int) else _) = _
      by_cases c : x.toList = l[i].toList
      · rw [if_pos c, if_pos (decide_eq_true c)]
      · rw [if_neg c, if_neg (by simpa using c)]
    rw [slices_Index_string_string.l0.eq_2, if_pos (by omega), if_pos (by omega), if_pos (by omega), er, ew, ih, ep]
    by_cases c : x.toList = l[i].toList
    · rw [if_pos c, if_pos c]
    · rw [if_neg c, if_neg c]
theorem idx_eq (w : ByteArray) : slices_Index_string_string.f 10 kinds5 w = some (idxK w) := index_loop kinds5 w (by decide) 5 0 10 rfl (by decide)
def starB (w : ByteArray) : Bool := decide (1 ≤ w.size) && ((w.extract 0 1).toList == [42])
theorem cut_eq (w : ByteArray) : strings_CutPrefix.f w ⟨#[42]⟩ = some (if starB w = true then (w.extract 1 w.size, true) else (w, false)) := by
  have hs : (⟨#[42]⟩ : ByteArray).size = 1 := rfl
  have hl : (⟨#[42]⟩ : ByteArray).toList = [42] := by rw [ByteArray.toList_eq]
  unfold strings_CutPrefix.f stringslite_CutPrefix.f stringslite_HasPrefix.f starB
  rw [hs, hl]
  by_cases c : 1 ≤ w.size
  · rw [if_pos (by omega), if_pos (by decide), if_pos (by omega), decide_eq_true c, Bool.true_and]
    cases h : ((w.extract 0 1).toList == [42]) with
    | true =>
      have h' : ((w.extract 0 (((1 : Nat) : Int) : Int).toNat).toList == [42]) = true := h
      rw [h']
      simp only [Option.bind_some, if_true]
      rw [if_pos (by decide), if_pos (by omega)]
      rfl
    | false =>
      have h' : ((w.extract 0 (((1 : Nat) : Int) : Int).toNat).toList == [42]) = false := h
      rw [h']
      rfl
  · rw [if_neg (by omega), decide_eq_false c]
    rfl
theorem cut_yes {w : ByteArray} (h : starB w = true) : strings_CutPrefix.f w ⟨#[42]⟩ = some (w.extract 1 w.size, true) := by rw [cut_eq, if_pos h]
theorem cut_no {w : ByteArray} (h : ¬ starB w = true) : strings_CutPrefix.f w ⟨#[42]⟩ = some (w, false) := by rw [cut_eq, if_neg h]
def readField (nm w : ByteArray) : S40 := if starB w = true then ⟨nm, 5, w.extract 1 w.size⟩ else ⟨nm, idxK w, ⟨#[]⟩⟩
def addLast (T : List S34) (f : S40) : List S34 := T.set (T.length - 1) ⟨(T.getD (T.length - 1) z34).f0, (T.getD (T.length - 1) z34).f1 ++ [f]⟩
set_option maxHeartbeats 8000000 in
theorem end_off (B g : Nat) (T : List S34) (wd : List Int) (nm : ByteArray) (inn : Bool) (w : World) (h : IsRd B g w T wd nm inn false) :
    Calls Try.prog 43 #[.pointer (some ⟨g, 0, none⟩)] w fun e w' => e = .returned (.bool (runesBytes wd).toList.isEmpty) ∧ IsRd0 B g w' T nm inn false ∧ BI B w w' := by
  have H := Aside0.mk h
  clear h
  go_enter Try.func43, Try.ntmps43
  go_wp2_with (go_at_call 42; refine (take_calls B g T wd nm inn false w H.out).mono ?_; rintro e w1 ⟨rfl, ⟨hBg, vT, hb, hS⟩, hbl⟩; have hx4 : w1.cell? ⟨g, 4, none⟩ = some (.bool false) := (blk_cell hb 4).trans rfl; have H1 := Aside0.mk (show IsRd0 B g w1 T nm inn false from ⟨hBg, vT, hb, hS⟩); have HB1 := Aside0.mk hbl; clear hBg hb hS hbl)
  go_ret
  exact ⟨rfl, H1.out, HB1.out⟩
theorem kinds_C {W : World} {ga : Nat} (h : W.heap[ga]? = some (.cells #[.string ⟨#[105, 56]⟩, .string ⟨#[105, 49, 54]⟩, .string ⟨#[105, 51, 50]⟩, .string ⟨#[105, 54, 52]⟩, .string ⟨#[116]⟩, .string ⟨#[42]⟩] 63 (0, 0))) : Kd.C Kd.string W (some ⟨ga, 0, none⟩) 5 kinds5 := by
  refine ⟨rfl, by decide, fun _ => ⟨_, rfl, fun j p hp => ⟨[.string p], rfl, rfl, fun i u hu => ?_⟩⟩⟩
  have hi : i = 0 := by
    have := (List.getElem?_eq_some_iff.1 hu).1
    simp at this
    exact this
  subst hi
  obtain rfl : Value.string p = u := Option.some.inj hu
  have hj : j < 5 := (List.getElem?_eq_some_iff.1 hp).1
  have e : (⟨ga, 0, none⟩ : Addr).add (j * Kd.string.sz + 0) = ⟨ga, j, none⟩ := by
    have e1 : j * Kd.string.sz + 0 = j := Nat.mul_one j
    rw [e1]
    unfold Addr.add
    by_cases h0 : j = 0
    · rw [if_pos h0, h0]
    · rw [if_neg h0]
      show (⟨ga, 0 + j, none⟩ : Addr) = _
      rw [Nat.zero_add]
  rw [e, blk_cell h j]
  have h5 : j = 0 ∨ j = 1 ∨ j = 2 ∨ j = 3 ∨ j = 4 := by omega
  rcases h5 with rfl | rfl | rfl | rfl | rfl <;> (obtain rfl := Option.some.inj hp; rfl)
theorem index_kinds (W : World) (ga : Nat) (wt : ByteArray) (h : W.heap[ga]? = some (.cells #[.string ⟨#[105, 56]⟩, .string ⟨#[105, 49, 54]⟩, .string ⟨#[105, 51, 50]⟩, .string ⟨#[105, 54, 52]⟩, .string ⟨#[116]⟩, .string ⟨#[42]⟩] 63 (0, 0))) : Calls Try.prog 50 #[.slice (some ⟨ga, 0, none⟩) 5 6, .string wt] W fun e w' => e = .returned (.int .i64 (idxK wt)) ∧ ∃ m, w' = W.drewN m := by
  refine (slices_Index_string_string.calls 10 (some ⟨ga, 0, none⟩) 6 kinds5 wt (idxK wt) W (kinds_C h) (by decide) (idx_eq wt)).mono ?_
  rintro e w' ⟨rfl, m, rfl⟩
  exact ⟨rfl, m, rfl⟩
def end5_T : Bool × List (List Nat × List Nat) := (true, [([], []), ([0], [0]), ([1], [1]), ([2], [2]), ([], []), ([], []), ([4, 5], [4, 5]), ([3, 6], [3, 6]), ([], []), ([8, 7, 6, 0, 1, 2, 3, 4, 5, 6, 7, 8], [7, 8])])
def end5_B : List Nat := [0, 1, 3, 7, 0, 0, 48, 127, 0, 511]
theorem end5_tab : rtab .any (opsOf Try.f43 5) = end5_T := by kernel_rfl
theorem end5_bits : waitsOk end5_T.2 end5_B = true := by kernel_rfl
def end9_T : Bool × List (List Nat × List Nat) := (true, [([], []), ([0], [0]), ([], []), ([2, 1], [2]), ([3], [3]), ([4], [4]), ([5], [5]), ([], []), ([7], [7]), ([6, 8, 3], [6, 8]), ([1, 0, 1, 2, 3, 4, 5, 6, 7, 8, 9], [1]), ([10, 0, 1, 2, 3, 4, 5, 6, 7, 8, 9], [10]), ([11, 9, 9, 0, 1, 2, 3, 4, 5, 6, 7, 8, 9], [9, 11])])
def end9_B : List Nat := [0, 1, 0, 7, 15, 31, 63, 0, 128, 511, 1023, 2047, 4095]
theorem end9_tab : rtab .any (opsOf Try.f43 9) = end9_T := by kernel_rfl
theorem end9_bits : waitsOk end9_T.2 end9_B = true := by kernel_rfl
set_option maxHeartbeats 8000000 in
set_option maxRecDepth 100000 in
theorem end_on (B g : Nat) (T : List S34) (wd : List Int) (nm : ByteArray) (inn : Bool) (w : World) (h : IsRd B g w T wd nm inn true) (hT : T ≠ []) (hTl : T.length ≤ 1000000) (hFl : (T.getD (T.length - 1) z34).f1.length ≤ 1000000) :
    Calls Try.prog 43 #[.pointer (some ⟨g, 0, none⟩)] w fun e w' => e = .returned (.bool ((readField nm (runesBytes wd)).f1 != -1)) ∧ IsRd0 B g w' (addLast T (readField nm (runesBytes wd))) nm inn false ∧ BI B w w' := by
  have H := Aside0.mk h
  have HTL := Aside0.mk hTl
  have HFL := Aside0.mk hFl
  have HNE := Aside0.mk (show 1 ≤ T.length from Nat.pos_of_ne_zero (fun h0 => hT (List.eq_nil_of_length_eq_zero h0)))
  clear h hTl hFl hT
  obtain ⟨wt, hwt⟩ : ∃ wt, wt = runesBytes wd := ⟨_, rfl⟩
  rw [← hwt]
  have HWT := Aside0.mk hwt
  clear hwt
  go_enter Try.func43, Try.ntmps43
  go_upto_region 5 with (first | (go_at_call 42; refine (take_calls B g T wd nm inn true w H.out).mono ?_; rintro e w1 ⟨rfl, ⟨hBg, vT, hb, hS⟩, hbl⟩; rw [← HWT.out]; have hx4 : w1.cell? ⟨g, 4, none⟩ = some (.bool true) := (blk_cell hb 4).trans rfl; have HBG := Aside0.mk hBg; have HG1 := Aside0.mk hb;  have HS1 := Aside0.mk hS; have HB1 := Aside0.mk hbl; clear hBg hb hS hbl) | (go_at_call 36; refine (schema_kinds.calls _).mono ?_; rintro e w2 ⟨rfl, rfl⟩))
  have HG2 := Aside0.mk (blk_drew (blk_alloc (blk_alloc HG1.out (.cells #[.string ⟨#[105, 56]⟩, .string ⟨#[105, 49, 54]⟩, .string ⟨#[105, 51, 50]⟩, .string ⟨#[105, 54, 52]⟩, .string ⟨#[116]⟩, .string ⟨#[42]⟩] 63)) (.cells #[.string ⟨#[105, 56]⟩, .string ⟨#[105, 49, 54]⟩, .string ⟨#[105, 51, 50]⟩, .string ⟨#[105, 54, 52]⟩, .string ⟨#[116]⟩, .string ⟨#[42]⟩] 63)))
  have HS2 := Aside0.mk (Kd.S_drew (Kd.S_alloc (Kd.S_alloc HS1.out (.cells #[.string ⟨#[105, 56]⟩, .string ⟨#[105, 49, 54]⟩, .string ⟨#[105, 51, 50]⟩, .string ⟨#[105, 54, 52]⟩, .string ⟨#[116]⟩, .string ⟨#[42]⟩] 63)) (.cells #[.string ⟨#[105, 56]⟩, .string ⟨#[105, 49, 54]⟩, .string ⟨#[105, 51, 50]⟩, .string ⟨#[105, 54, 52]⟩, .string ⟨#[116]⟩, .string ⟨#[42]⟩] 63)))
  have HA2 := Aside0.mk (blk_drew (blk_new2 w1 (.cells #[.string ⟨#[105, 56]⟩, .string ⟨#[105, 49, 54]⟩, .string ⟨#[105, 51, 50]⟩, .string ⟨#[105, 54, 52]⟩, .string ⟨#[116]⟩, .string ⟨#[42]⟩] 63) (.cells #[.string ⟨#[105, 56]⟩, .string ⟨#[105, 49, 54]⟩, .string ⟨#[105, 51, 50]⟩, .string ⟨#[105, 54, 52]⟩, .string ⟨#[116]⟩, .string ⟨#[42]⟩] 63)))
  have HB2 := Aside0.mk (((HB1.out.alloc (Nat.le_trans HBG.out (Nat.le_of_lt (blk_lt HG1.out))) (.cells #[.string ⟨#[105, 56]⟩, .string ⟨#[105, 49, 54]⟩, .string ⟨#[105, 51, 50]⟩, .string ⟨#[105, 54, 52]⟩, .string ⟨#[116]⟩, .string ⟨#[42]⟩] 63)).alloc (by rw [World.size_alloc]; have := blk_lt HG1.out; have := HBG.out; omega) (.cells #[.string ⟨#[105, 56]⟩, .string ⟨#[105, 49, 54]⟩, .string ⟨#[105, 51, 50]⟩, .string ⟨#[105, 54, 52]⟩, .string ⟨#[116]⟩, .string ⟨#[42]⟩] 63)).drew)
  obtain ⟨ga, hga⟩ : ∃ ga, ga = w1.heap.size + 1 := ⟨_, rfl⟩
  rw [← hga] at HA2 ⊢
  clear hga
  refine start_ (n := 10) (S := fun w' => w'.cell? ⟨g, 2, none⟩ = some (.string nm)) (ds := [9]) #[false, false, false, false, false, false, false, false, false, false] (by kernel_rfl) rfl rfl ((blk_cell HG2.out 2).trans rfl) (fun hHeld => ?_)
  refine with_tabW end5_tab end5_bits (fun HT_ HW_ => ?_)
  generalize ((w1.alloc (.cells #[.string ⟨#[105, 56]⟩, .string ⟨#[105, 49, 54]⟩, .string ⟨#[105, 51, 50]⟩, .string ⟨#[105, 54, 52]⟩, .string ⟨#[116]⟩, .string ⟨#[42]⟩] 63)).alloc (.cells #[.string ⟨#[105, 56]⟩, .string ⟨#[105, 49, 54]⟩, .string ⟨#[105, 51, 50]⟩, .string ⟨#[105, 54, 52]⟩, .string ⟨#[116]⟩, .string ⟨#[42]⟩] 63)).drew = w3 at HG2 HS2 HA2 HB2 hHeld ⊢
  refine pure_ (i := 0) (N := some 18) (v := ?_) (a' := ?_) #[true, false, false, false, false, false, false, false, false, false] rfl rfl (any_of HT_.out (by kernel_rfl)) (fun _ _ _ h => h) (Or.inl ⟨by rfl, ?_⟩) ?_ ?_
  rotate_left
  · intro w'
    go_simp
    with_reducible rfl
  rotate_left
  · simp only [Act.put, List.setIfInBounds_toArray, List.set_cons_zero, List.set_cons_succ, i64_w, i32_w]
    rfl
  refine pure_ (i := 1) (N := some 19) (v := ?_) (a' := ?_) #[true, true, false, false, false, false, false, false, false, false] rfl rfl (any_of HT_.out (by kernel_rfl)) (fun _ _ _ h => h) (Or.inl ⟨by rfl, ?_⟩) ?_ ?_
  rotate_left
  · intro w'
    go_simp
    with_reducible rfl
  rotate_left
  · simp only [Act.put, List.setIfInBounds_toArray, List.set_cons_zero, List.set_cons_succ, i64_w, i32_w]
    rfl
  refine pure_ (i := 2) (N := some 20) (v := ?_) (a' := ?_) #[true, true, true, false, false, false, false, false, false, false] rfl rfl (any_of HT_.out (by kernel_rfl)) (fun _ _ _ h => h) (Or.inl ⟨by rfl, ?_⟩) ?_ ?_
  rotate_left
  · intro w'
    go_simp
    with_reducible rfl
  rotate_left
  · simp only [Act.put, List.setIfInBounds_toArray, List.set_cons_zero, List.set_cons_succ, i64_w, i32_w]
    rfl
  refine take_ (i := 3) (N := some 21) (v := ?_) (a' := ?_) #[true, true, true, true, false, false, false, false, false, false] rfl rfl (take_ofW HT_.out HW_.out (by kernel_rfl)) (fun _ _ _ h => h) (Or.inl ⟨by rfl, ?_⟩) hHeld ?_ ?_
  rotate_left
  · rintro w' s0
    go_simp
    with_reducible rfl
  rotate_left
  · simp only [Act.put, List.setIfInBounds_toArray, List.set_cons_zero, List.set_cons_succ, i64_w, i32_w]
    rfl
  refine pure_ (i := 4) (N := some 22) (v := ?_) (a' := ?_) #[true, true, true, true, true, false, false, false, false, false] rfl rfl (any_of HT_.out (by kernel_rfl)) (fun _ _ _ h => h) (Or.inl ⟨by rfl, ?_⟩) ?_ ?_
  rotate_left
  · intro w'
    go_simp
    with_reducible rfl
  rotate_left
  · simp only [Act.put, List.setIfInBounds_toArray, List.set_cons_zero, List.set_cons_succ, i64_w, i32_w]
    rfl
  refine pure_ (i := 5) (N := some 23) (v := ?_) (a' := ?_) #[true, true, true, true, true, true, false, false, false, false] rfl rfl (any_of HT_.out (by kernel_rfl)) (fun _ _ _ h => h) (Or.inl ⟨by rfl, ?_⟩) ?_ ?_
  rotate_left
  · intro w'
    go_simp
    with_reducible rfl
  rotate_left
  · simp only [Act.put, List.setIfInBounds_toArray, List.set_cons_zero, List.set_cons_succ, i64_w, i32_w]
    rfl
  have HBS := Aside0.mk (show B ≤ w3.heap.size from Nat.le_trans HBG.out (Nat.le_of_lt (blk_lt HG2.out)))
  refine join_ (σ := Nat) 1 #[true, true, true, true, true, true, true, true, true, false] (fun gf => [(24, .int .i64 (idxK wt)), (25, .agg #[.string nm, .int .i64 (idxK wt), .string ⟨#[]⟩]), (5, .pointer (some ⟨gf, 0, none⟩))]) (fun gf w' => w'.heap[g]? = some (.cells #[vT, .slice none 0 0, .string nm, .bool inn, .bool true] 47 (0, 0)) ∧ Kd.S k34 34 w' B (fun k => True ∧ k ≠ gf) vT T ∧ w'.heap[ga]? = some (.cells #[.string ⟨#[105, 56]⟩, .string ⟨#[105, 49, 54]⟩, .string ⟨#[105, 51, 50]⟩, .string ⟨#[105, 54, 52]⟩, .string ⟨#[116]⟩, .string ⟨#[42]⟩] 63 (0, 0)) ∧ BI B w w' ∧ B ≤ gf ∧ w'.heap[gf]? = some (.cells #[.string ⟨#[]⟩, .int .i64 0, .string ⟨#[]⟩] 40 (0, 0))) ?hcont (fun HC => ?_)
  rotate_left
  · have HCC := Aside0.mk HC
    clear HC
    refine two_ (i := 6) (j := 8) (Ni := some 24) (Nj := some 5) #[true, true, true, true, true, true, true, false, false, false] #[true, true, true, true, true, true, false, false, true, false] rfl rfl rfl rfl (two_of HT_.out (by kernel_rfl)) (by decide) (by decide) (fun K hK => ?_) (fun K hK => ?_)
    · refine goes_ Try.func50 (by kernel_rfl) rfl #[.slice (some ⟨ga, 0, none⟩) 5 6, .string wt] (by rfl) rfl rfl (by simp only [List.map_toArray, List.map_cons, List.map_nil]; rfl) ?_
      with_reducible refine (index_kinds w3 ga wt HA2.out).mono ?_
      rintro e w4 ⟨rfl, ⟨m4, rfl⟩⟩
      refine ⟨_, rfl, ?_⟩
      refine hK.out _ _ hHeld (fun hHeld => ?_)
      clear hK K
      refine norm_ (a' := ?_) ?_ ?_
      rotate_left
      · show Act.put _ (some 24) _ = _
        simp only [Act.put, List.setIfInBounds_toArray, List.set_cons_zero, List.set_cons_succ, i64_w, i32_w]
        rfl
      refine pure_ (i := 7) (N := some 25) (v := ?_) (a' := ?_) #[true, true, true, true, true, true, true, true, false, false] rfl rfl (any_of HT_.out (by kernel_rfl)) (fun _ _ _ h => h) (Or.inl ⟨by rfl, ?_⟩) ?_ ?_
      rotate_left
      · intro w'
        go_simp
        with_reducible rfl
      rotate_left
      · simp only [Act.put, List.setIfInBounds_toArray, List.set_cons_zero, List.set_cons_succ, i64_w, i32_w]
        rfl
      refine one_ (i := 8) (N := some 5) #[true, true, true, true, true, true, true, true, true, false] rfl rfl (one_of HT_.out (by kernel_rfl)) (by decide) (fun K hK => ?_)
      refine value_ (w1 := (w3.drewN m4).alloc (.cells #[.string ⟨#[]⟩, .int .i64 0, .string ⟨#[]⟩] 40)) (v := .pointer (some ⟨(w3.drewN m4).heap.size, 0, none⟩)) (by rfl) rfl ?_ ?_
      · go_simp
      refine hK.out _ _ ((World.cell?_alloc_lt _ _ _ (World.block_lt_of_cell? _ _ hHeld)).trans hHeld) (fun hHeld => ?_)
      clear hK K
      refine norm_ ?_ (HCC.out (w3.drewN m4).heap.size _ ⟨blk_alloc (blk_drewN HG2.out m4) _, Kd.S_alloc (Kd.S_elderB (Kd.S_drewN HS2.out m4) _ (Nat.le_refl _)) _, blk_alloc (blk_drewN HA2.out m4) _, ((bi_drewN HB2.out m4).alloc HBS.out _), HBS.out, blk_new _ _⟩)
      rfl
    · refine value_ (w1 := w3.alloc (.cells #[.string ⟨#[]⟩, .int .i64 0, .string ⟨#[]⟩] 40)) (v := .pointer (some ⟨w3.heap.size, 0, none⟩)) (by rfl) rfl ?_ ?_
      · go_simp
      refine hK.out _ _ ((World.cell?_alloc_lt _ _ _ (World.block_lt_of_cell? _ _ hHeld)).trans hHeld) (fun hHeld => ?_)
      clear hK K
      refine norm_ (a' := ?_) ?_ ?_
      rotate_left
      · show Act.put _ (some 5) _ = _
        simp only [Act.put, List.setIfInBounds_toArray, List.set_cons_zero, List.set_cons_succ, i64_w, i32_w]
        rfl
      refine one_ (i := 6) (N := some 24) #[true, true, true, true, true, true, true, false, true, false] rfl rfl (one_of HT_.out (by kernel_rfl)) (by decide) (fun K hK => ?_)
      refine goes_ Try.func50 (by kernel_rfl) rfl #[.slice (some ⟨ga, 0, none⟩) 5 6, .string wt] (by rfl) rfl rfl (by simp only [List.map_toArray, List.map_cons, List.map_nil]; rfl) ?_
      with_reducible refine (index_kinds (w3.alloc (.cells #[.string ⟨#[]⟩, .int .i64 0, .string ⟨#[]⟩] 40)) ga wt (blk_alloc HA2.out _)).mono ?_
      rintro e w4 ⟨rfl, ⟨m4, rfl⟩⟩
      refine ⟨_, rfl, ?_⟩
      refine hK.out _ _ hHeld (fun hHeld => ?_)
      clear hK K
      refine norm_ (a' := ?_) ?_ ?_
      rotate_left
      · show Act.put _ (some 24) _ = _
        simp only [Act.put, List.setIfInBounds_toArray, List.set_cons_zero, List.set_cons_succ, i64_w, i32_w]
        rfl
      refine pure_ (i := 7) (N := some 25) (v := ?_) (a' := ?_) #[true, true, true, true, true, true, true, true, true, false] rfl rfl (any_of HT_.out (by kernel_rfl)) (fun _ _ _ h => h) (Or.inl ⟨by rfl, ?_⟩) ?_ ?_
      rotate_left
      · intro w'
        go_simp
        with_reducible rfl
      rotate_left
      · simp only [Act.put, List.setIfInBounds_toArray, List.set_cons_zero, List.set_cons_succ, i64_w, i32_w]
        rfl
      refine norm_ ?_ (HCC.out w3.heap.size _ ⟨blk_drewN (blk_alloc HG2.out _) m4, Kd.S_drewN (Kd.S_alloc (Kd.S_elderB HS2.out _ (Nat.le_refl _)) _) m4, blk_drewN (blk_alloc HA2.out _) m4, bi_drewN (HB2.out.alloc HBS.out _) m4, HBS.out, blk_drewN (blk_new _ _) m4⟩)
      rfl
  · clear HG2 HS2 HA2 HB2 HBS hHeld
    rintro gf w4 ⟨hG, hS, hA, hB, hgf, hF⟩
    have HG4 := Aside0.mk hG
    have HS4 := Aside0.mk hS
    have HA4 := Aside0.mk hA
    have HB4 := Aside0.mk hB
    have HGF := Aside0.mk hgf
    have HF4 := Aside0.mk hF
    clear hG hS hA hB hgf
    refine norm_ (a' := ?_) ?_ ?_
    rotate_left
    · simp only [putAll, Act.put, List.setIfInBounds_toArray, List.set_cons_zero, List.set_cons_succ]
      rfl
    refine last_ (i := 9) (N := none) #[true, true, true, true, true, true, true, true, true, true] rfl rfl (one_of HT_.out (by kernel_rfl)) (by decide) (fun K hK => ?_)
    have hz0 := blk_frozen hF 0
    have hz1 := blk_frozen hF 1
    have hz2 := blk_frozen hF 2
    have hc0 : w4.cell? ⟨gf, 0, none⟩ = some (.string ⟨#[]⟩) := (blk_cell hF 0).trans rfl
    have hc1 : w4.cell? ⟨gf, 1, none⟩ = some (.int .i64 0) := (blk_cell hF 1).trans rfl
    have hc2 : w4.cell? ⟨gf, 2, none⟩ = some (.string ⟨#[]⟩) := (blk_cell hF 2).trans rfl
    refine skip_ (w1 := ((w4.setCell ⟨gf, 0, none⟩ (.string nm)).setCell ⟨gf, 1, none⟩ (.int .i64 (idxK wt))).setCell ⟨gf, 2, none⟩ (.string ⟨#[]⟩)) (by rfl) rfl ?_ ?_
    · go_simp
    clear hz0 hz1 hz2 hc0 hc1 hc2 hF
    refine hK.out _ _ ?_
    clear hK K
    have HF5 := Aside0.mk (show (((w4.setCell ⟨gf, 0, none⟩ (.string nm)).setCell ⟨gf, 1, none⟩ (.int .i64 (idxK wt))).setCell ⟨gf, 2, none⟩ (.string ⟨#[]⟩)).heap[gf]? = some (.cells #[.string nm, .int .i64 (idxK wt), .string ⟨#[]⟩] 40 (0, 0)) from blk_put (blk_put (blk_put HF4.out 0 (.string nm) rfl) 1 (.int .i64 (idxK wt)) rfl) 2 (.string ⟨#[]⟩) rfl)
    have HG5 := Aside0.mk (blk_far (blk_far (blk_far HG4.out (p := ⟨gf, 0, none⟩) (blk_ne HG4.out HF4.out (by decide)) (.string nm)) (p := ⟨gf, 1, none⟩) (blk_ne HG4.out HF4.out (by decide)) (.int .i64 (idxK wt))) (p := ⟨gf, 2, none⟩) (blk_ne HG4.out HF4.out (by decide)) (.string ⟨#[]⟩))
    have HA5 := Aside0.mk (blk_far (blk_far (blk_far HA4.out (p := ⟨gf, 0, none⟩) (blk_ne HA4.out HF4.out (by decide)) (.string nm)) (p := ⟨gf, 1, none⟩) (blk_ne HA4.out HF4.out (by decide)) (.int .i64 (idxK wt))) (p := ⟨gf, 2, none⟩) (blk_ne HA4.out HF4.out (by decide)) (.string ⟨#[]⟩))
    have HS5 := Aside0.mk (Kd.S_far (Kd.S_far (Kd.S_far HS4.out (p := ⟨gf, 0, none⟩) (fun _ hk => hk.2) (.string nm)) (p := ⟨gf, 1, none⟩) (fun _ hk => hk.2) (.int .i64 (idxK wt))) (p := ⟨gf, 2, none⟩) (fun _ hk => hk.2) (.string ⟨#[]⟩))
    have HB5 := Aside0.mk (((HB4.out.setCell HF4.out HGF.out 0 (.string nm)).setCell (blk_put HF4.out 0 (.string nm) rfl) HGF.out 1 (.int .i64 (idxK wt))).setCell (blk_put (blk_put HF4.out 0 (.string nm) rfl) 1 (.int .i64 (idxK wt)) rfl) HGF.out 2 (.string ⟨#[]⟩))
    generalize ((w4.setCell ⟨gf, 0, none⟩ (.string nm)).setCell ⟨gf, 1, none⟩ (.int .i64 (idxK wt))).setCell ⟨gf, 2, none⟩ (.string ⟨#[]⟩) = w5 at HF5 HG5 HA5 HS5 HB5 ⊢
    clear HG4 HS4 HA4 HB4 HF4
    refine done_ (done_of HT_.out (by kernel_rfl)) ?_
    clear HT_ HW_
    simp only [Exit.then]
    go_step
    go_step
    go_cut [] (fun w6 => ∃ (fk : Int) (ft : ByteArray), Aside0 (readField nm wt = ⟨nm, fk, ft⟩) ∧ Aside0 (w6.heap[gf]? = some (.cells #[.string nm, .int .i64 fk, .string ft] 40 (0, 0))) ∧ Aside0 (w6.heap[g]? = some (.cells #[vT, .slice none 0 0, .string nm, .bool inn, .bool true] 47 (0, 0))) ∧ Aside0 (Kd.S k34 34 w6 B (fun k => True ∧ k ≠ gf) vT T) ∧ Aside0 (BI B w w6))
    case first =>
      have hxa : w5.cell? ⟨ga, 5, none⟩ = some (.string ⟨#[42]⟩) := (blk_cell HA5.out 5).trans rfl
      by_cases hs : starB wt = true
      · have HC := Aside0.mk (cut_yes hs)
        have HRF := Aside0.mk (show readField nm wt = ⟨nm, 5, wt.extract 1 wt.size⟩ from if_pos hs)
        clear hs
        go_wp2_with (go_at_call 51; refine (strings_CutPrefix.calls wt ⟨#[42]⟩ _ _ _ HC.out).mono ?_; rintro e w6 ⟨rfl, ⟨m6, rfl⟩⟩; have hg1 : (w5.drewN m6).cell? ⟨gf, 1, none⟩ = some (.int .i64 (idxK wt)) := (blk_cell HF5.out 1).trans rfl; have hg2 : (w5.drewN m6).cell? ⟨gf, 2, none⟩ = some (.string ⟨#[]⟩) := (blk_cell HF5.out 2).trans rfl; have hh1 : (w5.drewN m6).frozen? ⟨gf, 1, none⟩ = false := blk_frozen (blk_drewN HF5.out m6) 1; have hh2 : (w5.drewN m6).frozen? ⟨gf, 2, none⟩ = false := blk_frozen (blk_drewN HF5.out m6) 2)
        go_meet
        case rel => exact ⟨5, wt.extract 1 wt.size, HRF, ⟨blk_put (blk_put (blk_drewN HF5.out m6) 1 (.int .i64 5) rfl) 2 (.string (wt.extract 1 wt.size)) rfl⟩, ⟨blk_far (blk_far (blk_drewN HG5.out m6) (p := ⟨gf, 1, none⟩) (blk_ne HG5.out HF5.out (by decide)) _) (p := ⟨gf, 2, none⟩) (blk_ne HG5.out HF5.out (by decide)) _⟩, ⟨Kd.S_far (Kd.S_far (Kd.S_drewN HS5.out m6) (p := ⟨gf, 1, none⟩) (fun _ hk => hk.2) _) (p := ⟨gf, 2, none⟩) (fun _ hk => hk.2) _⟩, ⟨((bi_drewN HB5.out m6).setCell (blk_drewN HF5.out m6) HGF.out 1 _).setCell (blk_put (blk_drewN HF5.out m6) 1 (.int .i64 5) rfl) HGF.out 2 _⟩⟩
      · have HC := Aside0.mk (cut_no hs)
        have HRF := Aside0.mk (show readField nm wt = ⟨nm, idxK wt, ⟨#[]⟩⟩ from if_neg hs)
        clear hs
        go_wp2_with (go_at_call 51; refine (strings_CutPrefix.calls wt ⟨#[42]⟩ _ _ _ HC.out).mono ?_; rintro e w6 ⟨rfl, ⟨m6, rfl⟩⟩)
        go_meet
        case rel => exact ⟨idxK wt, ⟨#[]⟩, HRF, ⟨blk_drewN HF5.out m6⟩, ⟨blk_drewN HG5.out m6⟩, ⟨Kd.S_drewN HS5.out m6⟩, ⟨bi_drewN HB5.out m6⟩⟩
    case rest =>
      clear HF5 HG5 HA5 HS5 HB5
      obtain ⟨fk, ft, HRF, HF6, HG6, HS6, HB6⟩ := hcut
      obtain ⟨gT, cap, rfl, hgT⟩ : ∃ gT cap, vT = .slice (some ⟨gT, 0, none⟩) T.length cap ∧ True := by
        obtain ⟨gT, cap, h1, _⟩ := Kd.S_form HS6.out HNE.out
        exact ⟨gT, cap, h1, trivial⟩
      clear hgT
      obtain ⟨p, hp⟩ : ∃ p, p = (T.length - 1) * 2 := ⟨_, rfl⟩
      have HP := Aside0.mk hp
      clear hp
      have HLC : Aside0 (∀ w' : World, w'.heap[g]? = some (.cells #[.slice (some ⟨gT, 0, none⟩) T.length cap, .slice none 0 0, .string nm, .bool inn, .bool true] 47 (0, 0)) → Calls Try.prog 52 #[.pointer (some ⟨g, 0, none⟩)] w' fun e w'' => e = .returned (.pointer (some ⟨gT, p, none⟩)) ∧ Drawn0 w' w'') := ⟨fun w' hb => HP.out ▸ last_calls g gT T.length cap _ nm inn true w' hb HNE.out HTL.out⟩
      have HG7 := Aside0.mk (blk_drew HG6.out)
      have HF7 := Aside0.mk (blk_drew HF6.out)
      have HS7 := Aside0.mk (Kd.S_drew HS6.out)
      have HB7 := Aside0.mk HB6.out.drew
      clear HG6 HF6 HS6 HB6
      obtain ⟨vI, hvI⟩ : ∃ vI, wc.drew.cell? ⟨gT, p + 1, none⟩ = some vI := by
        obtain ⟨oki, c, hcl, hM, hcc, _⟩ := Kd.S_elem HS7.out z34 ((T.length - 1 : Nat) : Int) (by omega) (by have := HNE.out; omega)
        obtain ⟨v1, rfl, _⟩ := k34_openM hM
        rw [HP.out]
        exact ⟨v1, hcc 1 v1 rfl⟩
      go_upto_region 9 with (fail)
      refine start_ (n := 13) (S := fun w' => w'.cell? ⟨gf, 0, none⟩ = some (.string nm) ∧ w'.cell? ⟨gf, 1, none⟩ = some (.int .i64 fk) ∧ w'.cell? ⟨gf, 2, none⟩ = some (.string ft) ∧ w'.cell? ⟨gT, p + 1, none⟩ = some vI) (ds := [12]) #[false, false, false, false, false, false, false, false, false, false, false, false, false] (by kernel_rfl) rfl rfl ⟨(blk_cell HF7.out 0).trans rfl, (blk_cell HF7.out 1).trans rfl, (blk_cell HF7.out 2).trans rfl, hvI⟩ (fun hHeld => ?_)
      refine with_tabW end9_tab end9_bits (fun HT_ HW_ => ?_)
      have HI7 := Aside0.mk hvI
      clear hvI
      generalize wc.drew = w7 at HG7 HF7 HS7 HB7 HI7 hHeld ⊢
      have HBS := Aside0.mk (show B ≤ w7.heap.size from Nat.le_trans HBG.out (Nat.le_of_lt (blk_lt HG7.out)))
      refine pure_ (i := 0) (N := some 37) (v := ?_) (a' := ?_) #[true, false, false, false, false, false, false, false, false, false, false, false, false] rfl rfl (any_of HT_.out (by kernel_rfl)) (fun _ _ _ h => h) (Or.inl ⟨by rfl, ?_⟩) ?_ ?_
      rotate_left
      · intro w'
        go_simp
        with_reducible rfl
      rotate_left
      · simp only [Act.put, List.setIfInBounds_toArray, List.set_cons_zero, List.set_cons_succ, i64_w, i32_w]
        rfl
      refine pure_ (i := 2) (N := some 39) (v := ?_) (a' := ?_) #[true, false, true, false, false, false, false, false, false, false, false, false, false] rfl rfl (any_of HT_.out (by kernel_rfl)) (fun _ _ _ h => h) (Or.inl ⟨by rfl, ?_⟩) ?_ ?_
      rotate_left
      · intro w'
        go_simp
        with_reducible rfl
      rotate_left
      · simp only [Act.put, List.setIfInBounds_toArray, List.set_cons_zero, List.set_cons_succ, i64_w, i32_w]
        rfl
      refine take_ (i := 7) (N := some 44) (v := ?_) (a' := ?_) #[true, false, true, false, false, false, false, true, false, false, false, false, false] rfl rfl (take_ofW HT_.out HW_.out (by kernel_rfl)) (fun _ _ _ h => h) (Or.inl ⟨by rfl, ?_⟩) hHeld ?_ ?_
      rotate_left
      · rintro w' ⟨s0, s1, s2, s3⟩
        go_simp
        with_reducible rfl
      rotate_left
      · simp only [Act.put, List.setIfInBounds_toArray, List.set_cons_zero, List.set_cons_succ, i64_w, i32_w]
        rfl
      refine join_ (σ := World) 4 #[true, true, true, true, true, true, true, true, true, false, false, false, false] (fun W => [(38, .pointer (some ⟨gT, p, none⟩)), (40, .pointer (some ⟨gT, p, none⟩)), (41, .pointer (some ⟨gT, p, none⟩)), (42, .pointer (some ⟨gT, p + 1, none⟩)), (43, vI), (45, .slice (some ⟨W.heap.size, 0, none⟩) 1 1)]) (fun W w' => w' = W.alloc (.cells #[.string nm, .int .i64 fk, .string ft] 40) ∧ W.heap[g]? = some (.cells #[.slice (some ⟨gT, 0, none⟩) T.length cap, .slice none 0 0, .string nm, .bool inn, .bool true] 47 (0, 0)) ∧ Kd.S k34 34 W B (fun k => True ∧ k ≠ gf) (.slice (some ⟨gT, 0, none⟩) T.length cap) T ∧ BI B w W ∧ B ≤ W.heap.size ∧ W.heap[gf]? = some (.cells #[.string nm, .int .i64 fk, .string ft] 40 (0, 0)) ∧ W.cell? ⟨gT, p + 1, none⟩ = some vI) ?hcont9 (fun HC => ?_)
      rotate_left
      · have HCC := Aside0.mk HC
        clear HC
        refine two_ (i := 1) (j := 8) (Ni := some 38) (Nj := some 45) #[true, true, true, false, false, false, false, true, false, false, false, false, false] #[true, false, true, false, false, false, false, true, true, false, false, false, false] rfl rfl rfl rfl (two_of HT_.out (by kernel_rfl)) (by decide) (by decide) (fun K hK => ?_) (fun K hK => ?_)
        · refine goes_ Try.func52 (by kernel_rfl) rfl #[.pointer (some ⟨g, 0, none⟩)] (by rfl) rfl rfl (by simp only [List.map_toArray, List.map_cons, List.map_nil]; rfl) ?_
          with_reducible refine (HLC.out (w7) (HG7.out)).mono ?_
          rintro e w8 ⟨rfl, ⟨m1, rfl⟩⟩
          refine ⟨_, rfl, ?_⟩
          refine hK.out _ _ hHeld (fun hHeld => ?_)
          clear hK K
          refine norm_ (a' := ?_) ?_ ?_
          rotate_left
          · show Act.put _ (some 38) _ = _
            simp only [Act.put, List.setIfInBounds_toArray, List.set_cons_zero, List.set_cons_succ, i64_w, i32_w]
            rfl
          refine two_ (i := 3) (j := 8) (Ni := some 40) (Nj := some 45) #[true, true, true, true, false, false, false, true, false, false, false, false, false] #[true, true, true, false, false, false, false, true, true, false, false, false, false] rfl rfl rfl rfl (two_of HT_.out (by kernel_rfl)) (by decide) (by decide) (fun K hK => ?_) (fun K hK => ?_)
          · refine goes_ Try.func52 (by kernel_rfl) rfl #[.pointer (some ⟨g, 0, none⟩)] (by rfl) rfl rfl (by simp only [List.map_toArray, List.map_cons, List.map_nil]; rfl) ?_
            with_reducible refine (HLC.out (w7.drewN m1) (blk_drewN HG7.out m1)).mono ?_
            rintro e w8 ⟨rfl, ⟨m2, rfl⟩⟩
            refine ⟨_, rfl, ?_⟩
            refine hK.out _ _ hHeld (fun hHeld => ?_)
            clear hK K
            refine norm_ (a' := ?_) ?_ ?_
            rotate_left
            · show Act.put _ (some 40) _ = _
              simp only [Act.put, List.setIfInBounds_toArray, List.set_cons_zero, List.set_cons_succ, i64_w, i32_w]
              rfl
            refine pure_ (i := 4) (N := some 41) (v := ?_) (a' := ?_) #[true, true, true, true, true, false, false, true, false, false, false, false, false] rfl rfl (any_of HT_.out (by kernel_rfl)) (fun _ _ _ h => h) (Or.inl ⟨by rfl, ?_⟩) ?_ ?_
            rotate_left
            · intro w'
              go_simp
              with_reducible rfl
            rotate_left
            · simp only [Act.put, List.setIfInBounds_toArray, List.set_cons_zero, List.set_cons_succ, i64_w, i32_w]
              rfl
            refine pure_ (i := 5) (N := some 42) (v := ?_) (a' := ?_) #[true, true, true, true, true, true, false, true, false, false, false, false, false] rfl rfl (any_of HT_.out (by kernel_rfl)) (fun _ _ _ h => h) (Or.inl ⟨by rfl, ?_⟩) ?_ ?_
            rotate_left
            · intro w'
              go_simp
              with_reducible rfl
            rotate_left
            · simp only [Act.put, List.setIfInBounds_toArray, List.set_cons_zero, List.set_cons_succ, i64_w, i32_w]
              rfl
            refine take_ (i := 6) (N := some 43) (v := ?_) (a' := ?_) #[true, true, true, true, true, true, true, true, false, false, false, false, false] rfl rfl (take_ofW HT_.out HW_.out (by kernel_rfl)) (fun _ _ _ h => h) (Or.inl ⟨by rfl, ?_⟩) hHeld ?_ ?_
            rotate_left
            · rintro w' ⟨s0, s1, s2, s3⟩
              go_simp
              with_reducible rfl
            rotate_left
            · simp only [Act.put, List.setIfInBounds_toArray, List.set_cons_zero, List.set_cons_succ, i64_w, i32_w]
              rfl
            refine one_ (i := 8) (N := some 45) #[true, true, true, true, true, true, true, true, true, false, false, false, false] rfl rfl (one_of HT_.out (by kernel_rfl)) (by decide) (fun K hK => ?_)
            refine value_ (w1 := ((w7.drewN m1).drewN m2).alloc (.cells #[.string nm, .int .i64 fk, .string ft] 40)) (v := .slice (some ⟨((w7.drewN m1).drewN m2).heap.size, 0, none⟩) 1 1) (by rfl) rfl ?_ ?_
            · go_simp
            refine hK.out _ _ ⟨(World.cell?_alloc_lt _ _ _ (World.block_lt_of_cell? _ _ hHeld.1)).trans hHeld.1, (World.cell?_alloc_lt _ _ _ (World.block_lt_of_cell? _ _ hHeld.2.1)).trans hHeld.2.1, (World.cell?_alloc_lt _ _ _ (World.block_lt_of_cell? _ _ hHeld.2.2.1)).trans hHeld.2.2.1, (World.cell?_alloc_lt _ _ _ (World.block_lt_of_cell? _ _ hHeld.2.2.2)).trans hHeld.2.2.2⟩ (fun hHeld => ?_)
            clear hK K
            refine norm_ ?_ (HCC.out ((w7.drewN m1).drewN m2) _ ⟨rfl, blk_drewN (blk_drewN HG7.out m1) m2, Kd.S_drewN (Kd.S_drewN HS7.out m1) m2, bi_drewN (bi_drewN HB7.out m1) m2, HBS.out, blk_drewN (blk_drewN HF7.out m1) m2, HI7.out⟩)
            rfl
          · refine value_ (w1 := (w7.drewN m1).alloc (.cells #[.string nm, .int .i64 fk, .string ft] 40)) (v := .slice (some ⟨(w7.drewN m1).heap.size, 0, none⟩) 1 1) (by rfl) rfl ?_ ?_
            · go_simp
            refine hK.out _ _ ⟨(World.cell?_alloc_lt _ _ _ (World.block_lt_of_cell? _ _ hHeld.1)).trans hHeld.1, (World.cell?_alloc_lt _ _ _ (World.block_lt_of_cell? _ _ hHeld.2.1)).trans hHeld.2.1, (World.cell?_alloc_lt _ _ _ (World.block_lt_of_cell? _ _ hHeld.2.2.1)).trans hHeld.2.2.1, (World.cell?_alloc_lt _ _ _ (World.block_lt_of_cell? _ _ hHeld.2.2.2)).trans hHeld.2.2.2⟩ (fun hHeld => ?_)
            clear hK K
            refine norm_ (a' := ?_) ?_ ?_
            rotate_left
            · show Act.put _ (some 45) _ = _
              simp only [Act.put, List.setIfInBounds_toArray, List.set_cons_zero, List.set_cons_succ, i64_w, i32_w]
              rfl
            refine one_ (i := 3) (N := some 40) #[true, true, true, true, false, false, false, true, true, false, false, false, false] rfl rfl (one_of HT_.out (by kernel_rfl)) (by decide) (fun K hK => ?_)
            refine goes_ Try.func52 (by kernel_rfl) rfl #[.pointer (some ⟨g, 0, none⟩)] (by rfl) rfl rfl (by simp only [List.map_toArray, List.map_cons, List.map_nil]; rfl) ?_
            with_reducible refine (HLC.out ((w7.drewN m1).alloc (.cells #[.string nm, .int .i64 fk, .string ft] 40)) (blk_alloc (blk_drewN HG7.out m1) _)).mono ?_
            rintro e w8 ⟨rfl, ⟨m2, rfl⟩⟩
            refine ⟨_, rfl, ?_⟩
            refine hK.out _ _ hHeld (fun hHeld => ?_)
            clear hK K
            refine norm_ (a' := ?_) ?_ ?_
            rotate_left
            · show Act.put _ (some 40) _ = _
              simp only [Act.put, List.setIfInBounds_toArray, List.set_cons_zero, List.set_cons_succ, i64_w, i32_w]
              rfl
            refine pure_ (i := 4) (N := some 41) (v := ?_) (a' := ?_) #[true, true, true, true, true, false, false, true, true, false, false, false, false] rfl rfl (any_of HT_.out (by kernel_rfl)) (fun _ _ _ h => h) (Or.inl ⟨by rfl, ?_⟩) ?_ ?_
            rotate_left
            · intro w'
              go_simp
              with_reducible rfl
            rotate_left
            · simp only [Act.put, List.setIfInBounds_toArray, List.set_cons_zero, List.set_cons_succ, i64_w, i32_w]
              rfl
            refine pure_ (i := 5) (N := some 42) (v := ?_) (a' := ?_) #[true, true, true, true, true, true, false, true, true, false, false, false, false] rfl rfl (any_of HT_.out (by kernel_rfl)) (fun _ _ _ h => h) (Or.inl ⟨by rfl, ?_⟩) ?_ ?_
            rotate_left
            · intro w'
              go_simp
              with_reducible rfl
            rotate_left
            · simp only [Act.put, List.setIfInBounds_toArray, List.set_cons_zero, List.set_cons_succ, i64_w, i32_w]
              rfl
            refine take_ (i := 6) (N := some 43) (v := ?_) (a' := ?_) #[true, true, true, true, true, true, true, true, true, false, false, false, false] rfl rfl (take_ofW HT_.out HW_.out (by kernel_rfl)) (fun _ _ _ h => h) (Or.inl ⟨by rfl, ?_⟩) hHeld ?_ ?_
            rotate_left
            · rintro w' ⟨s0, s1, s2, s3⟩
              go_simp
              with_reducible rfl
            rotate_left
            · simp only [Act.put, List.setIfInBounds_toArray, List.set_cons_zero, List.set_cons_succ, i64_w, i32_w]
              rfl
            refine norm_ ?_ (HCC.out ((w7.drewN m1).drewN m2) _ ⟨rfl, blk_drewN (blk_drewN HG7.out m1) m2, Kd.S_drewN (Kd.S_drewN HS7.out m1) m2, bi_drewN (bi_drewN HB7.out m1) m2, HBS.out, blk_drewN (blk_drewN HF7.out m1) m2, HI7.out⟩)
            rfl
        · refine value_ (w1 := (w7).alloc (.cells #[.string nm, .int .i64 fk, .string ft] 40)) (v := .slice (some ⟨(w7).heap.size, 0, none⟩) 1 1) (by rfl) rfl ?_ ?_
          · go_simp
          refine hK.out _ _ ⟨(World.cell?_alloc_lt _ _ _ (World.block_lt_of_cell? _ _ hHeld.1)).trans hHeld.1, (World.cell?_alloc_lt _ _ _ (World.block_lt_of_cell? _ _ hHeld.2.1)).trans hHeld.2.1, (World.cell?_alloc_lt _ _ _ (World.block_lt_of_cell? _ _ hHeld.2.2.1)).trans hHeld.2.2.1, (World.cell?_alloc_lt _ _ _ (World.block_lt_of_cell? _ _ hHeld.2.2.2)).trans hHeld.2.2.2⟩ (fun hHeld => ?_)
          clear hK K
          refine norm_ (a' := ?_) ?_ ?_
          rotate_left
          · show Act.put _ (some 45) _ = _
            simp only [Act.put, List.setIfInBounds_toArray, List.set_cons_zero, List.set_cons_succ, i64_w, i32_w]
            rfl
          refine one_ (i := 1) (N := some 38) #[true, true, true, false, false, false, false, true, true, false, false, false, false] rfl rfl (one_of HT_.out (by kernel_rfl)) (by decide) (fun K hK => ?_)
          refine goes_ Try.func52 (by kernel_rfl) rfl #[.pointer (some ⟨g, 0, none⟩)] (by rfl) rfl rfl (by simp only [List.map_toArray, List.map_cons, List.map_nil]; rfl) ?_
          with_reducible refine (HLC.out (w7.alloc (.cells #[.string nm, .int .i64 fk, .string ft] 40)) (blk_alloc HG7.out _)).mono ?_
          rintro e w8 ⟨rfl, ⟨m1, rfl⟩⟩
          refine ⟨_, rfl, ?_⟩
          refine hK.out _ _ hHeld (fun hHeld => ?_)
          clear hK K
          refine norm_ (a' := ?_) ?_ ?_
          rotate_left
          · show Act.put _ (some 38) _ = _
            simp only [Act.put, List.setIfInBounds_toArray, List.set_cons_zero, List.set_cons_succ, i64_w, i32_w]
            rfl
          refine one_ (i := 3) (N := some 40) #[true, true, true, true, false, false, false, true, true, false, false, false, false] rfl rfl (one_of HT_.out (by kernel_rfl)) (by decide) (fun K hK => ?_)
          refine goes_ Try.func52 (by kernel_rfl) rfl #[.pointer (some ⟨g, 0, none⟩)] (by rfl) rfl rfl (by simp only [List.map_toArray, List.map_cons, List.map_nil]; rfl) ?_
          with_reducible refine (HLC.out ((w7.alloc (.cells #[.string nm, .int .i64 fk, .string ft] 40)).drewN m1) (blk_drewN (blk_alloc HG7.out _) m1)).mono ?_
          rintro e w8 ⟨rfl, ⟨m2, rfl⟩⟩
          refine ⟨_, rfl, ?_⟩
          refine hK.out _ _ hHeld (fun hHeld => ?_)
          clear hK K
          refine norm_ (a' := ?_) ?_ ?_
          rotate_left
          · show Act.put _ (some 40) _ = _
            simp only [Act.put, List.setIfInBounds_toArray, List.set_cons_zero, List.set_cons_succ, i64_w, i32_w]
            rfl
          refine pure_ (i := 4) (N := some 41) (v := ?_) (a' := ?_) #[true, true, true, true, true, false, false, true, true, false, false, false, false] rfl rfl (any_of HT_.out (by kernel_rfl)) (fun _ _ _ h => h) (Or.inl ⟨by rfl, ?_⟩) ?_ ?_
          rotate_left
          · intro w'
            go_simp
            with_reducible rfl
          rotate_left
          · simp only [Act.put, List.setIfInBounds_toArray, List.set_cons_zero, List.set_cons_succ, i64_w, i32_w]
            rfl
          refine pure_ (i := 5) (N := some 42) (v := ?_) (a' := ?_) #[true, true, true, true, true, true, false, true, true, false, false, false, false] rfl rfl (any_of HT_.out (by kernel_rfl)) (fun _ _ _ h => h) (Or.inl ⟨by rfl, ?_⟩) ?_ ?_
          rotate_left
          · intro w'
            go_simp
            with_reducible rfl
          rotate_left
          · simp only [Act.put, List.setIfInBounds_toArray, List.set_cons_zero, List.set_cons_succ, i64_w, i32_w]
            rfl
          refine take_ (i := 6) (N := some 43) (v := ?_) (a' := ?_) #[true, true, true, true, true, true, true, true, true, false, false, false, false] rfl rfl (take_ofW HT_.out HW_.out (by kernel_rfl)) (fun _ _ _ h => h) (Or.inl ⟨by rfl, ?_⟩) hHeld ?_ ?_
          rotate_left
          · rintro w' ⟨s0, s1, s2, s3⟩
            go_simp
            with_reducible rfl
          rotate_left
          · simp only [Act.put, List.setIfInBounds_toArray, List.set_cons_zero, List.set_cons_succ, i64_w, i32_w]
            rfl
          refine norm_ ?_ (HCC.out ((w7.drewN m1).drewN m2) _ ⟨rfl, blk_drewN (blk_drewN HG7.out m1) m2, Kd.S_drewN (Kd.S_drewN HS7.out m1) m2, bi_drewN (bi_drewN HB7.out m1) m2, HBS.out, blk_drewN (blk_drewN HF7.out m1) m2, HI7.out⟩)
          rfl
      · clear HG7 HF7 HS7 HB7 HI7 HBS hHeld
        rintro W w8 ⟨rfl, hG, hS, hB, hbs, hF, hI⟩
        have HG8 := Aside0.mk hG
        have HS8 := Aside0.mk hS
        have HB8 := Aside0.mk hB
        have HBS := Aside0.mk hbs
        have HF8 := Aside0.mk hF
        have HI8 := Aside0.mk hI
        clear hG hS hB hbs hF hI
        refine norm_ (a' := ?_) ?_ ?_
        rotate_left
        · simp only [putAll, Act.put, List.setIfInBounds_toArray, List.set_cons_zero, List.set_cons_succ]
          rfl
        refine one_ (i := 9) (N := some 46) #[true, true, true, true, true, true, true, true, true, true, false, false, false] rfl rfl (one_of HT_.out (by kernel_rfl)) (by decide) (fun K hK => ?_)
        obtain ⟨oki, c, hcl, hM, hcc, hfr, hoki, hH⟩ := Kd.S_elem HS8.out z34 ((T.length - 1 : Nat) : Int) (by omega) (by have := HNE.out; omega)
        obtain ⟨v1, rfl, hR⟩ := k34_openM hM
        obtain rfl : vI = v1 := by
          have h1 := hcc 1 v1 rfl
          have h2 := HI8.out
          rw [HP.out] at h2
          exact Option.some.inj (h2.symm.trans h1)
        have HR := Aside0.mk hR
        have HOKI := Aside0.mk hoki
        have HH := Aside0.mk (Kd.H_widen hH)
        clear hcl hM hcc hfr hoki hH hR
        obtain ⟨csT, hcsT⟩ := Kd.S_typed HS8.out gT (by simp [Value.ownBlock])
        have HNG := Aside0.mk (show some g ≠ some gT from fun he => blk_ne HG8.out hcsT (by decide) (Option.some.inj he))
        have HNF := Aside0.mk (show some gf ≠ some gT from fun he => blk_ne HF8.out hcsT (by decide) (Option.some.inj he))
        have HBT := Aside0.mk (Kd.S_base HS8.out gT (by simp [Value.ownBlock]))
        have HCT := Aside0.mk hcsT
        clear hcsT
        have hbl : gf < W.heap.size := blk_lt HF8.out
        have HGL := Aside0.mk hbl
        clear hbl
        refine Kd.R_append_step k40 (w0 := w) B (by rfl) (.tmp 43) (.tmp 45) 32 40 (.agg #[(.string ⟨#[]⟩), (.int .i64 0), (.string ⟨#[]⟩)]) 40 rfl Try.underlying32 info40 rfl (by decide) (by omega) vI (T.getD (T.length - 1) z34).f1 ⟨nm, fk, ft⟩ [.string nm, .int .i64 fk, .string ft] (fun k => oki k ∨ (True ∧ k ≠ gf) ∧ W.heap.size ≤ k) (fun _ => False) rfl rfl (k40_mkM _ _ _ ⟨nm, fk, ft⟩) (fun _ h => h.elim) (fun k hk => .inr ⟨⟨trivial, by have := HGL.out; omega⟩, hk⟩) (Kd.R_mono HR.out (fun _ h => .inl h)) HB8.out.1 HBS.out (by have := HFL.out; omega) ?_
        intro v1 w9 hR1 hB1 hg hat
        have hrow : ∀ k, vI.ownBlock = some k → oki k := fun k hk => HR.out.1 k hk
        have HH9 := Aside0.mk (Kd.H_grown HH.out hg (fun k hk => .inl (hrow k hk)))
        have HG9 := Aside0.mk (blk_grown HG8.out hg (Kd.R_ne HR.out HG8.out (by decide)))
        have HF9 := Aside0.mk (blk_grown HF8.out hg (fun he => (HOKI.out gf (hrow gf he.symm)).1.2 rfl))
        have HR9 := Aside0.mk hR1
        have HB9 := Aside0.mk (HB8.out.grown hB1 hg (Kd.R_typed HR.out))
        have HCT9 := Aside0.mk (blk_grown HCT.out hg (fun he => (HOKI.out gT (hrow gT he.symm)).2 rfl))
        have HI9 := Aside0.mk (cell_grown hg HI8.out (fun he => (HOKI.out gT (hrow gT he.symm)).2 rfl))
        have HBS9 := Aside0.mk (show gf < w9.heap.size from blk_lt HF9.out)
        clear hg hrow hR1 hB1 hat
        refine hK.out _ _ ⟨(blk_cell HF9.out 0).trans rfl, (blk_cell HF9.out 1).trans rfl, (blk_cell HF9.out 2).trans rfl, HI9.out⟩ (fun hHeld => ?_)
        clear hK K HG8 HS8 HB8 HBS HF8 HI8 HH HGL
        refine norm_ (a' := ?_) ?_ ?_
        rotate_left
        · show Act.put _ (some 46) _ = _
          simp only [Act.put, List.setIfInBounds_toArray, List.set_cons_zero, List.set_cons_succ, i64_w, i32_w]
          rfl
        refine pure_ (i := 10) (N := some 47) (v := ?_) (a' := ?_) #[true, true, true, true, true, true, true, true, true, true, true, false, false] rfl rfl (any_of HT_.out (by kernel_rfl)) (fun _ _ _ h => h) (Or.inl ⟨by rfl, ?_⟩) ?_ ?_
        rotate_left
        · intro w'
          go_simp
          with_reducible rfl
        rotate_left
        · simp only [Act.put, List.setIfInBounds_toArray, List.set_cons_zero, List.set_cons_succ, i64_w, i32_w]
          rfl
        refine pure_ (i := 11) (N := some 48) (v := ?_) (a' := ?_) #[true, true, true, true, true, true, true, true, true, true, true, true, false] rfl rfl (any_of HT_.out (by kernel_rfl)) (fun _ _ _ h => h) (Or.inl ⟨by rfl, ?_⟩) ?_ ?_
        rotate_left
        · intro w'
          go_simp
          with_reducible rfl
        rotate_left
        · simp only [Act.put, List.setIfInBounds_toArray, List.set_cons_zero, List.set_cons_succ, i64_w, i32_w]
          rfl
        refine last_ (i := 12) (N := none) #[true, true, true, true, true, true, true, true, true, true, true, true, true] rfl rfl (one_of HT_.out (by kernel_rfl)) (by decide) (fun K hK => ?_)
        have hT := Kd.H_at HH9.out (by omega) (by have := HNE.out; omega)
        have hy1 : w9.cell? ⟨gT, p + 1, none⟩ = some vI := HI9.out
        have hy2 : w9.frozen? ⟨gT, p + 1, none⟩ = false := by rw [HP.out]; exact hT.2 1
        have HS9 := Kd.S_seg0 HH9.out (by omega) (by have := HNE.out; omega) (seg := [v1]) (j := 1) (Nat.le_refl 2) (k34_mkM w9 B _ ⟨(T.getD (T.length - 1) z34).f0, (T.getD (T.length - 1) z34).f1 ++ [⟨nm, fk, ft⟩]⟩ HR9.out) (fun _ hk => hk)
        have hsc : w9.setCells gT (((T.length - 1 : Nat) : Int).toNat * (k34).sz + 1) [v1] = w9.setCell ⟨gT, p + 1, none⟩ v1 := by rw [HP.out]; rfl
        rw [hsc] at HS9
        have HS10 := Aside0.mk HS9.1
        have HG10 := Aside0.mk (blk_grown HG9.out HS9.2 HNG.out)
        have HF10 := Aside0.mk (blk_grown HF9.out HS9.2 HNF.out)
        have HB10 := Aside0.mk (HB9.out.setCell HCT9.out HBT.out (p + 1) v1)
        clear HS9 hsc hT
        refine skip_ (w1 := w9.setCell ⟨gT, p + 1, none⟩ v1) (by rfl) rfl ?_ ?_
        · obtain ⟨A9, c9, hv⟩ := Kd.R_slice HR9.out
          rw [hv]
          go_simp
        clear hy1 hy2 hHeld
        refine hK.out _ _ ?_
        clear hK K
        generalize w9.setCell ⟨gT, p + 1, none⟩ v1 = w10 at HS10 HG10 HF10 HB10 ⊢
        refine done_ (done_of HT_.out (by kernel_rfl)) ?_
        have hx5 : w10.cell? ⟨g, 4, none⟩ = some (.bool true) := (blk_cell HG10.out 4).trans rfl
        have hy5 : w10.frozen? ⟨g, 4, none⟩ = false := blk_frozen HG10.out 4
        have hx6 : w10.cell? ⟨gf, 1, none⟩ = some (.int .i64 fk) := (blk_cell HF10.out 1).trans rfl
        have hx7 : (w10.setCell ⟨g, 4, none⟩ (.bool false)).cell? ⟨gf, 1, none⟩ = some (.int .i64 fk) := (blk_cell (blk_far HF10.out (p := ⟨g, 4, none⟩) (blk_ne HF10.out HG10.out (by decide)) _) 1).trans rfl
        simp only [Exit.then]
        go_step
        go_wp2
        go_ret
        have hS := Kd.S_set (Kd.S_mono HS10.out (ok' := fun _ => True) (fun _ _ => trivial)) HG10.out (by decide) 4 (.bool false)
        rw [HRF.out]
        exact ⟨rfl, ⟨HBG.out, _, blk_put HG10.out 4 (.bool false) rfl, hS⟩, HB10.out.setCell HG10.out HBG.out 4 _⟩

end Go.Proofs.Ytlcanmndeempfaa.PMo
