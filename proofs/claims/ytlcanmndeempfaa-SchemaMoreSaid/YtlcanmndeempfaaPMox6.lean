-- Written by wip/tools/myprint.py, a program of the prover's own, over the kit's print; the contracts named 'HAND' there are typed by hand.
import Derived.Test.YtlcanmndeempfaaPMox0
import Derived.Test.YtlcanmndeempfaaPMox1
import Derived.Test.YtlcanmndeempfaaPMox2
import Derived.Test.YtlcanmndeempfaaPMox4
import Derived.Test.YtlcanmndeempfaaPMox5
namespace Go.Proofs.Ytlcanmndeempfaa.PMo
open Go.RowKit Go.Proofs.YtlcanmndeempfaaW.PrintWords Go.Proofs.YtlcanmndeempfaaW.PrintLast Go.Proofs.YtlcanmndeempfaaW.PrintMore
attribute [local go_sem] max2_int min2_int max_two min_two max_three min_three max_four min_four   -- for this text's walks alone
set_option linter.unusedVariables false
set_option linter.unusedSimpArgs false

attribute [local go_sem high] eqA40
/-! ### schema_reader_sign: function 24 -/
theorem info_rune : (Try.prog.info? 21).map (fun i => (i.zero, i.size, i.bytes)) = some (some (.int .i32 0), 1, 4) := by kernel_rfl
def sign3_T : Bool × List (List Nat × List Nat) := (true, [([], []), ([], []), ([1], [1]), ([2], [2]), ([3], [3]), ([4], [4]), ([], []), ([6], [6]), ([7], [7]), ([8], [8]), ([5, 9, 7], [5, 9]), ([0, 0, 1, 2, 3, 4, 5, 6, 7, 8, 9, 10], [0]), ([11, 0, 1, 2, 3, 4, 5, 6, 7, 8, 9, 10], [11]), ([12, 0, 1, 2, 3, 4, 5, 6, 7, 8, 9, 10], [12]), ([13, 10, 10, 0, 1, 2, 3, 4, 5, 6, 7, 8, 9, 10], [10, 13])])
def sign3_B : List Nat := [0, 0, 2, 6, 14, 30, 0, 64, 192, 448, 1022, 2047, 4095, 8191, 16383]
theorem sign3_tab : rtab .any (opsOf Try.f24 3) = sign3_T := by kernel_rfl
theorem sign3_bits : waitsOk sign3_T.2 sign3_B = true := by kernel_rfl
set_option maxHeartbeats 8000000 in
set_option maxRecDepth 100000 in
theorem sign_open (B g : Nat) (T : List S34) (wd : List Int) (nm : ByteArray) (fld : Bool) (w : World) (h : IsRd B g w T wd nm false fld) (hTl : T.length ≤ 1000000) :
    Calls Try.prog 24 #[.pointer (some ⟨g, 0, none⟩), .int .i32 123] w fun e w' => e = .returned (.bool true) ∧ IsRd0 B g w' (T ++ [⟨runesBytes wd, []⟩]) nm true fld ∧ BI B w w' := by
  obtain ⟨hBg, vT, vW, hb, hS, hR⟩ := h
  have HBG := Aside0.mk hBg
  have HTL := Aside0.mk hTl
  have HG0 := Aside0.mk hb
  have HS0 := Aside0.mk hS
  have HR0 := Aside0.mk hR
  have hx3 : w.cell? ⟨g, 3, none⟩ = some (.bool false) := (blk_cell hb 3).trans rfl
  clear hBg hTl hb hS hR
  go_enter Try.func24, Try.ntmps24
  go_upto_region 3 with (fail)
  clear hx3
  have HG1 := Aside0.mk (blk_drew HG0.out)
  have HS1 := Aside0.mk (Kd.S_drew HS0.out)
  have HR1 := Aside0.mk (Kd.R_drew HR0.out)
  have HB1 := Aside0.mk (BI.refl B w).drew
  clear HG0 HS0 HR0
  refine start_ (n := 15) (S := fun w' => w'.cell? ⟨g, 0, none⟩ = some vT) (ds := [14]) #[false, false, false, false, false, false, false, false, false, false, false, false, false, false, false] (by kernel_rfl) rfl rfl ((blk_cell HG1.out 0).trans rfl) (fun hHeld => ?_)
  refine with_tabW sign3_tab sign3_bits (fun HT_ HW_ => ?_)
  generalize w.drew = w1 at HG1 HS1 HR1 HB1 hHeld ⊢
  refine pure_ (i := 0) (N := some 25) (v := ?_) (a' := ?_) #[true, false, false, false, false, false, false, false, false, false, false, false, false, false, false] rfl rfl (any_of HT_.out (by kernel_rfl)) (fun _ _ _ h => h) (Or.inl ⟨by rfl, ?_⟩) ?_ ?_
  rotate_left
  · intro w'
    go_simp
    with_reducible rfl
  rotate_left
  · simp only [Act.put, List.setIfInBounds_toArray, List.set_cons_zero, List.set_cons_succ, i64_w, i32_w]
    rfl
  refine pure_ (i := 1) (N := some 26) (v := ?_) (a' := ?_) #[true, true, false, false, false, false, false, false, false, false, false, false, false, false, false] rfl rfl (any_of HT_.out (by kernel_rfl)) (fun _ _ _ h => h) (Or.inl ⟨by rfl, ?_⟩) ?_ ?_
  rotate_left
  · intro w'
    go_simp
    with_reducible rfl
  rotate_left
  · simp only [Act.put, List.setIfInBounds_toArray, List.set_cons_zero, List.set_cons_succ, i64_w, i32_w]
    rfl
  refine pure_ (i := 2) (N := some 27) (v := ?_) (a' := ?_) #[true, true, true, false, false, false, false, false, false, false, false, false, false, false, false] rfl rfl (any_of HT_.out (by kernel_rfl)) (fun _ _ _ h => h) (Or.inl ⟨by rfl, ?_⟩) ?_ ?_
  rotate_left
  · intro w'
    go_simp
    with_reducible rfl
  rotate_left
  · simp only [Act.put, List.setIfInBounds_toArray, List.set_cons_zero, List.set_cons_succ, i64_w, i32_w]
    rfl
  refine pure_ (i := 3) (N := some 28) (v := ?_) (a' := ?_) #[true, true, true, true, false, false, false, false, false, false, false, false, false, false, false] rfl rfl (any_of HT_.out (by kernel_rfl)) (fun _ _ _ h => h) (Or.inl ⟨by rfl, ?_⟩) ?_ ?_
  rotate_left
  · intro w'
    go_simp
    with_reducible rfl
  rotate_left
  · simp only [Act.put, List.setIfInBounds_toArray, List.set_cons_zero, List.set_cons_succ, i64_w, i32_w]
    rfl
  refine pure_ (i := 4) (N := some 29) (v := ?_) (a' := ?_) #[true, true, true, true, true, false, false, false, false, false, false, false, false, false, false] rfl rfl (any_of HT_.out (by kernel_rfl)) (fun _ _ _ h => h) (Or.inl ⟨by rfl, ?_⟩) ?_ ?_
  rotate_left
  · intro w'
    go_simp
    with_reducible rfl
  rotate_left
  · simp only [Act.put, List.setIfInBounds_toArray, List.set_cons_zero, List.set_cons_succ, i64_w, i32_w]
    rfl
  refine take_ (i := 5) (N := some 30) (v := ?_) (a' := ?_) #[true, true, true, true, true, true, false, false, false, false, false, false, false, false, false] rfl rfl (take_ofW HT_.out HW_.out (by kernel_rfl)) (fun _ _ _ h => h) (Or.inl ⟨by rfl, ?_⟩) hHeld ?_ ?_
  rotate_left
  · rintro w' s0
    go_simp
    with_reducible rfl
  rotate_left
  · simp only [Act.put, List.setIfInBounds_toArray, List.set_cons_zero, List.set_cons_succ, i64_w, i32_w]
    rfl
  refine pure_ (i := 6) (N := some 31) (v := ?_) (a' := ?_) #[true, true, true, true, true, true, true, false, false, false, false, false, false, false, false] rfl rfl (any_of HT_.out (by kernel_rfl)) (fun _ _ _ h => h) (Or.inl ⟨by rfl, ?_⟩) ?_ ?_
  rotate_left
  · intro w'
    go_simp
    with_reducible rfl
  rotate_left
  · simp only [Act.put, List.setIfInBounds_toArray, List.set_cons_zero, List.set_cons_succ, i64_w, i32_w]
    rfl
  refine one_ (i := 7) (N := some 32) #[true, true, true, true, true, true, true, true, false, false, false, false, false, false, false] rfl rfl (one_of HT_.out (by kernel_rfl)) (by decide) (fun K hK => ?_)
  refine goes_ Try.func42 (by kernel_rfl) rfl #[.pointer (some ⟨g, 0, none⟩)] (by rfl) rfl rfl (by simp only [List.map_toArray, List.map_cons, List.map_nil]; rfl) ?_
  with_reducible refine (take_at B g vT vW T wd nm false fld w1 HBG.out HG1.out HS1.out HR1.out).mono ?_
  rintro e w2 ⟨rfl, hb2, hS2, hB2⟩
  have HG2 := Aside0.mk hb2
  have HS2 := Aside0.mk hS2
  have HB2 := Aside0.mk (HB1.out.trans hB2)
  clear hb2 hS2 hB2 HG1 HS1 HR1 HB1
  refine ⟨_, rfl, ?_⟩
  refine hK.out _ _ ((blk_cell HG2.out 0).trans rfl) (fun hHeld => ?_)
  clear hK K
  obtain ⟨wt, hwt⟩ : ∃ wt, wt = runesBytes wd := ⟨_, rfl⟩
  rw [← hwt]
  have HWT := Aside0.mk hwt
  clear hwt
  refine norm_ (a' := ?_) ?_ ?_
  rotate_left
  · show Act.put _ (some 32) _ = _
    simp only [Act.put, List.setIfInBounds_toArray, List.set_cons_zero, List.set_cons_succ, i64_w, i32_w]
    rfl
  refine pure_ (i := 8) (N := some 33) (v := ?_) (a' := ?_) #[true, true, true, true, true, true, true, true, true, false, false, false, false, false, false] rfl rfl (any_of HT_.out (by kernel_rfl)) (fun _ _ _ h => h) (Or.inl ⟨by rfl, ?_⟩) ?_ ?_
  rotate_left
  · intro w'
    go_simp
    with_reducible rfl
  rotate_left
  · simp only [Act.put, List.setIfInBounds_toArray, List.set_cons_zero, List.set_cons_succ, i64_w, i32_w]
    rfl
  refine one_ (i := 9) (N := some 34) #[true, true, true, true, true, true, true, true, true, true, false, false, false, false, false] rfl rfl (one_of HT_.out (by kernel_rfl)) (by decide) (fun K hK => ?_)
  refine value_ (w1 := w2.alloc (.cells #[.string wt, .slice none 0 0] 34)) (v := .slice (some ⟨w2.heap.size, 0, none⟩) 1 1) (by rfl) rfl ?_ ?_
  · go_simp
  refine hK.out _ _ ((World.cell?_alloc_lt _ _ _ (World.block_lt_of_cell? _ _ hHeld)).trans hHeld) (fun hHeld => ?_)
  clear hK K
  refine norm_ (a' := ?_) ?_ ?_
  rotate_left
  · show Act.put _ (some 34) _ = _
    simp only [Act.put, List.setIfInBounds_toArray, List.set_cons_zero, List.set_cons_succ, i64_w, i32_w]
    rfl
  refine one_ (i := 10) (N := some 35) #[true, true, true, true, true, true, true, true, true, true, true, false, false, false, false] rfl rfl (one_of HT_.out (by kernel_rfl)) (by decide) (fun K hK => ?_)
  have HBS := Aside0.mk (show B ≤ w2.heap.size from Nat.le_trans HBG.out (Nat.le_of_lt (blk_lt HG2.out)))
  refine Kd.S_append_step k34 (w0 := w) B (by rfl) (.tmp 30) (.tmp 34) 22 34 (.agg #[(.string ⟨#[]⟩), (.slice none 0 0)]) 40 rfl Try.underlying22 info34 rfl (by decide) (by omega) vT T ⟨wt, []⟩ [.string wt, .slice none 0 0] (fun _ => True) (fun _ => False) rfl rfl (k34_mkM _ _ _ ⟨wt, []⟩ (Kd.R_nil _ _ _ _ _)) (fun _ h => h.elim) (fun _ _ => trivial) (Kd.S_mono HS2.out (fun _ _ => ⟨trivial, fun h => h⟩)) HB2.out.1 HBS.out (by have := HTL.out; omega) ?_
  intro v1 w3 hS3 hB3 hg hat
  have HG3 := Aside0.mk (blk_grown HG2.out hg (Kd.R_ne (Kd.S_R HS2.out) HG2.out (by decide)))
  have HS3 := Aside0.mk hS3
  have HB3 := Aside0.mk (HB2.out.grown hB3 hg (Kd.S_typed HS2.out))
  clear hg hat hS3 hB3 hHeld
  refine hK.out _ _ ((blk_cell HG3.out 0).trans rfl) (fun hHeld => ?_)
  clear hK K HG2 HS2 HB2 HBS
  refine norm_ (a' := ?_) ?_ ?_
  rotate_left
  · show Act.put _ (some 35) _ = _
    simp only [Act.put, List.setIfInBounds_toArray, List.set_cons_zero, List.set_cons_succ, i64_w, i32_w]
    rfl
  refine pure_ (i := 11) (N := some 36) (v := ?_) (a' := ?_) #[true, true, true, true, true, true, true, true, true, true, true, true, false, false, false] rfl rfl (any_of HT_.out (by kernel_rfl)) (fun _ _ _ h => h) (Or.inl ⟨by rfl, ?_⟩) ?_ ?_
  rotate_left
  · intro w'
    go_simp
    with_reducible rfl
  rotate_left
  · simp only [Act.put, List.setIfInBounds_toArray, List.set_cons_zero, List.set_cons_succ, i64_w, i32_w]
    rfl
  refine pure_ (i := 12) (N := some 37) (v := ?_) (a' := ?_) #[true, true, true, true, true, true, true, true, true, true, true, true, true, false, false] rfl rfl (any_of HT_.out (by kernel_rfl)) (fun _ _ _ h => h) (Or.inl ⟨by rfl, ?_⟩) ?_ ?_
  rotate_left
  · intro w'
    go_simp
    with_reducible rfl
  rotate_left
  · simp only [Act.put, List.setIfInBounds_toArray, List.set_cons_zero, List.set_cons_succ, i64_w, i32_w]
    rfl
  refine pure_ (i := 13) (N := some 38) (v := ?_) (a' := ?_) #[true, true, true, true, true, true, true, true, true, true, true, true, true, true, false] rfl rfl (any_of HT_.out (by kernel_rfl)) (fun _ _ _ h => h) (Or.inl ⟨by rfl, ?_⟩) ?_ ?_
  rotate_left
  · intro w'
    go_simp
    with_reducible rfl
  rotate_left
  · simp only [Act.put, List.setIfInBounds_toArray, List.set_cons_zero, List.set_cons_succ, i64_w, i32_w]
    rfl
  refine last_ (i := 14) (N := none) #[true, true, true, true, true, true, true, true, true, true, true, true, true, true, true] rfl rfl (one_of HT_.out (by kernel_rfl)) (by decide) (fun K hK => ?_)
  have hy1 : w3.cell? ⟨g, 0, none⟩ = some vT := (blk_cell HG3.out 0).trans rfl
  have hy2 : w3.frozen? ⟨g, 0, none⟩ = false := blk_frozen HG3.out 0
  refine skip_ (w1 := w3.setCell ⟨g, 0, none⟩ v1) (by rfl) rfl ?_ ?_
  · obtain ⟨A9, c9, hv⟩ := Kd.S_slice HS3.out
    rw [hv]
    go_simp
  clear hy1 hy2 hHeld
  refine hK.out _ _ ?_
  clear hK K
  have HG4 := Aside0.mk (blk_put HG3.out 0 v1 rfl)
  have HS4 := Aside0.mk (Kd.S_set HS3.out HG3.out (by decide) 0 v1)
  have HB4 := Aside0.mk (HB3.out.setCell HG3.out HBG.out 0 v1)
  generalize w3.setCell ⟨g, 0, none⟩ v1 = w4 at HG4 HS4 HB4 ⊢
  clear HG3 HS3 HB3
  refine done_ (done_of HT_.out (by kernel_rfl)) ?_
  simp only [Exit.then]
  go_step
  have hx3 : w4.cell? ⟨g, 3, none⟩ = some (.bool false) := (blk_cell HG4.out 3).trans rfl
  have hy3 : w4.frozen? ⟨g, 3, none⟩ = false := blk_frozen HG4.out 3
  go_wp2
  go_ret
  rw [← HWT.out]
  exact ⟨rfl, ⟨HBG.out, v1, blk_put HG4.out 3 _ rfl, Kd.S_set HS4.out HG4.out (by decide) 3 _⟩, HB4.out.setCell HG4.out HBG.out 3 _⟩
set_option maxHeartbeats 8000000 in
set_option maxRecDepth 100000 in
theorem sign_colon (B g : Nat) (T : List S34) (wd : List Int) (nm : ByteArray) (w : World) (h : IsRd B g w T wd nm true false) :
    Calls Try.prog 24 #[.pointer (some ⟨g, 0, none⟩), .int .i32 58] w fun e w' => e = .returned (.bool true) ∧ IsRd0 B g w' T (runesBytes wd) true true ∧ BI B w w' := by
  obtain ⟨hBg, vT, vW, hb, hS, hR⟩ := h
  have HBG := Aside0.mk hBg
  have HG0 := Aside0.mk hb
  have HS0 := Aside0.mk hS
  have HR0 := Aside0.mk hR
  have hx3 : w.cell? ⟨g, 3, none⟩ = some (.bool true) := (blk_cell hb 3).trans rfl
  have hx4 : w.cell? ⟨g, 4, none⟩ = some (.bool false) := (blk_cell hb 4).trans rfl
  clear hBg hb hS hR
  go_enter Try.func24, Try.ntmps24
  go_wp2_with (go_at_call 42; refine (take_at B g vT vW T wd nm true false w HBG.out HG0.out HS0.out HR0.out).mono ?_; rintro e w1 ⟨rfl, hb1, hS1, hB1⟩; have HG1 := Aside0.mk hb1; have HS1 := Aside0.mk hS1; have HB1 := Aside0.mk hB1; have hy2 : w1.cell? ⟨g, 2, none⟩ = some (.string nm) := (blk_cell hb1 2).trans rfl; have hz2 : w1.frozen? ⟨g, 2, none⟩ = false := blk_frozen hb1 2; have hy4 : (w1.setCell ⟨g, 2, none⟩ (.string (runesBytes wd))).cell? ⟨g, 4, none⟩ = some (.bool false) := (blk_cell (blk_put hb1 2 (.string (runesBytes wd)) rfl) 4).trans rfl; have hz4 : (w1.setCell ⟨g, 2, none⟩ (.string (runesBytes wd))).frozen? ⟨g, 4, none⟩ = false := blk_frozen (blk_put hb1 2 (.string (runesBytes wd)) rfl) 4; clear hb1 hS1 hB1 hx3 hx4)
  go_ret
  have hb2 := blk_put HG1.out 2 (.string (runesBytes wd)) rfl
  exact ⟨rfl, ⟨HBG.out, vT, blk_put hb2 4 _ rfl, Kd.S_set (Kd.S_set HS1.out HG1.out (by decide) 2 _) hb2 (by decide) 4 _⟩, (HB1.out.setCell HG1.out HBG.out 2 _).setCell hb2 HBG.out 4 _⟩
set_option maxHeartbeats 8000000 in
set_option maxRecDepth 100000 in
theorem sign_comma (B g : Nat) (T : List S34) (wd : List Int) (nm : ByteArray) (w : World) (h : IsRd B g w T wd nm true true) (hT : T ≠ []) (hTl : T.length ≤ 1000000) (hFl : (T.getD (T.length - 1) z34).f1.length ≤ 1000000) :
    Calls Try.prog 24 #[.pointer (some ⟨g, 0, none⟩), .int .i32 44] w fun e w' => e = .returned (.bool ((readField nm (runesBytes wd)).f1 != -1)) ∧ IsRd0 B g w' (addLast T (readField nm (runesBytes wd))) nm true false ∧ BI B w w' := by
  have HC := Aside0.mk (end_on B g T wd nm true w h hT hTl hFl)
  clear hT hTl hFl
  obtain ⟨hBg, vT, vW, hb, hS, hR⟩ := h
  have HBG := Aside0.mk hBg
  have HG0 := Aside0.mk hb
  have HS0 := Aside0.mk hS
  have HR0 := Aside0.mk hR
  have hx3 : w.cell? ⟨g, 3, none⟩ = some (.bool true) := (blk_cell hb 3).trans rfl
  have hx4 : w.cell? ⟨g, 4, none⟩ = some (.bool true) := (blk_cell hb 4).trans rfl
  clear hBg hb hS hR
  go_enter Try.func24, Try.ntmps24
  go_wp2_with (go_at_call 43; refine HC.out.mono ?_; rintro e w1 ⟨rfl, hI, hB⟩; have HI := Aside0.mk hI; have HB := Aside0.mk hB; clear hI hB hx3 hx4)
  go_ret
  exact ⟨rfl, HI.out, HB.out⟩
set_option maxHeartbeats 8000000 in
set_option maxRecDepth 100000 in
theorem sign_close_on (B g : Nat) (T : List S34) (wd : List Int) (nm : ByteArray) (w : World) (h : IsRd B g w T wd nm true true) (hT : T ≠ []) (hTl : T.length ≤ 1000000) (hFl : (T.getD (T.length - 1) z34).f1.length ≤ 1000000) :
    Calls Try.prog 24 #[.pointer (some ⟨g, 0, none⟩), .int .i32 125] w fun e w' => e = .returned (.bool ((readField nm (runesBytes wd)).f1 != -1)) ∧ IsRd0 B g w' (addLast T (readField nm (runesBytes wd))) nm false false ∧ BI B w w' := by
  have HT := Aside0.mk hT
  have HTl := Aside0.mk hTl
  have HFl := Aside0.mk hFl
  clear hT hTl hFl
  obtain ⟨hBg, vT, vW, hb, hS, hR⟩ := h
  have HBG := Aside0.mk hBg
  have HG0 := Aside0.mk hb
  have HS0 := Aside0.mk hS
  have HR0 := Aside0.mk hR
  have hx3 : w.cell? ⟨g, 3, none⟩ = some (.bool true) := (blk_cell hb 3).trans rfl
  have hx4 : w.cell? ⟨g, 4, none⟩ = some (.bool true) := (blk_cell hb 4).trans rfl
  clear hBg hb hS hR
  go_enter Try.func24, Try.ntmps24
  have HG1 := Aside0.mk (blk_put HG0.out 3 (.bool false) rfl)
  have HI1 : Aside0 (IsRd B g (w.setCell ⟨g, 3, none⟩ (.bool false)) T wd nm false true) := ⟨⟨HBG.out, vT, vW, HG1.out, Kd.S_set HS0.out HG0.out (by decide) 3 _, Kd.R_set HR0.out HG0.out (by decide) 3 _⟩⟩
  have HB1 := Aside0.mk ((BI.refl B w).setCell HG0.out HBG.out 3 (.bool false))
  have hz3 : w.frozen? ⟨g, 3, none⟩ = false := blk_frozen HG0.out 3
  go_wp2_with (go_at_call 43; refine (end_on B g T wd nm false _ HI1.out HT.out HTl.out HFl.out).mono ?_; rintro e w1 ⟨rfl, hI, hB⟩; have HI := Aside0.mk hI; have HB := Aside0.mk hB; clear hI hB hx3 hx4)
  go_ret
  exact ⟨rfl, HI.out, HB1.out.trans HB.out⟩
set_option maxHeartbeats 8000000 in
set_option maxRecDepth 100000 in
theorem sign_close_off (B g : Nat) (T : List S34) (wd : List Int) (nm : ByteArray) (w : World) (h : IsRd B g w T wd nm true false) :
    Calls Try.prog 24 #[.pointer (some ⟨g, 0, none⟩), .int .i32 125] w fun e w' => e = .returned (.bool (runesBytes wd).toList.isEmpty) ∧ IsRd0 B g w' T nm false false ∧ BI B w w' := by
  obtain ⟨hBg, vT, vW, hb, hS, hR⟩ := h
  have HBG := Aside0.mk hBg
  have HG0 := Aside0.mk hb
  have HS0 := Aside0.mk hS
  have HR0 := Aside0.mk hR
  have hx3 : w.cell? ⟨g, 3, none⟩ = some (.bool true) := (blk_cell hb 3).trans rfl
  have hx4 : w.cell? ⟨g, 4, none⟩ = some (.bool false) := (blk_cell hb 4).trans rfl
  clear hBg hb hS hR
  go_enter Try.func24, Try.ntmps24
  have HG1 := Aside0.mk (blk_put HG0.out 3 (.bool false) rfl)
  have HI1 : Aside0 (IsRd B g (w.setCell ⟨g, 3, none⟩ (.bool false)) T wd nm false false) := ⟨⟨HBG.out, vT, vW, HG1.out, Kd.S_set HS0.out HG0.out (by decide) 3 _, Kd.R_set HR0.out HG0.out (by decide) 3 _⟩⟩
  have HB1 := Aside0.mk ((BI.refl B w).setCell HG0.out HBG.out 3 (.bool false))
  have hz3 : w.frozen? ⟨g, 3, none⟩ = false := blk_frozen HG0.out 3
  go_wp2_with (go_at_call 43; refine (end_off B g T wd nm false _ HI1.out).mono ?_; rintro e w1 ⟨rfl, hI, hB⟩; have HI := Aside0.mk hI; have HB := Aside0.mk hB; clear hI hB hx3 hx4)
  go_ret
  exact ⟨rfl, HI.out, HB1.out.trans HB.out⟩
set_option maxHeartbeats 8000000 in
set_option maxRecDepth 100000 in
theorem sign_bad_open (B g : Nat) (T : List S34) (wd : List Int) (nm : ByteArray) (fld : Bool) (w : World) (h : IsRd B g w T wd nm true fld) :
    Calls Try.prog 24 #[.pointer (some ⟨g, 0, none⟩), .int .i32 123] w fun e w' => e = .returned (.bool false) ∧ BI B w w' := by
  obtain ⟨hBg, vT, vW, hb, hS, hR⟩ := h
  have HBG := Aside0.mk hBg
  have HG0 := Aside0.mk hb
  have HS0 := Aside0.mk hS
  have HR0 := Aside0.mk hR
  have hx3 : w.cell? ⟨g, 3, none⟩ = some (.bool true) := (blk_cell hb 3).trans rfl
  have hx4 : w.cell? ⟨g, 4, none⟩ = some (.bool fld) := (blk_cell hb 4).trans rfl
  clear hBg hb hS hR
  go_enter Try.func24, Try.ntmps24
  go_wp2
  go_ret
  exact ⟨rfl, BI.refl _ _⟩
set_option maxHeartbeats 8000000 in
set_option maxRecDepth 100000 in
theorem sign_bad_colon_out (B g : Nat) (T : List S34) (wd : List Int) (nm : ByteArray) (fld : Bool) (w : World) (h : IsRd B g w T wd nm false fld) :
    Calls Try.prog 24 #[.pointer (some ⟨g, 0, none⟩), .int .i32 58] w fun e w' => e = .returned (.bool false) ∧ BI B w w' := by
  obtain ⟨hBg, vT, vW, hb, hS, hR⟩ := h
  have HBG := Aside0.mk hBg
  have HG0 := Aside0.mk hb
  have HS0 := Aside0.mk hS
  have HR0 := Aside0.mk hR
  have hx3 : w.cell? ⟨g, 3, none⟩ = some (.bool false) := (blk_cell hb 3).trans rfl
  have hx4 : w.cell? ⟨g, 4, none⟩ = some (.bool fld) := (blk_cell hb 4).trans rfl
  clear hBg hb hS hR
  go_enter Try.func24, Try.ntmps24
  go_wp2
  go_ret
  exact ⟨rfl, BI.refl _ _⟩
set_option maxHeartbeats 8000000 in
set_option maxRecDepth 100000 in
theorem sign_bad_colon_in (B g : Nat) (T : List S34) (wd : List Int) (nm : ByteArray) (w : World) (h : IsRd B g w T wd nm true true) :
    Calls Try.prog 24 #[.pointer (some ⟨g, 0, none⟩), .int .i32 58] w fun e w' => e = .returned (.bool false) ∧ BI B w w' := by
  obtain ⟨hBg, vT, vW, hb, hS, hR⟩ := h
  have HBG := Aside0.mk hBg
  have HG0 := Aside0.mk hb
  have HS0 := Aside0.mk hS
  have HR0 := Aside0.mk hR
  have hx3 : w.cell? ⟨g, 3, none⟩ = some (.bool true) := (blk_cell hb 3).trans rfl
  have hx4 : w.cell? ⟨g, 4, none⟩ = some (.bool true) := (blk_cell hb 4).trans rfl
  clear hBg hb hS hR
  go_enter Try.func24, Try.ntmps24
  go_wp2
  go_ret
  exact ⟨rfl, BI.refl _ _⟩
set_option maxHeartbeats 8000000 in
set_option maxRecDepth 100000 in
theorem sign_bad_comma_out (B g : Nat) (T : List S34) (wd : List Int) (nm : ByteArray) (fld : Bool) (w : World) (h : IsRd B g w T wd nm false fld) :
    Calls Try.prog 24 #[.pointer (some ⟨g, 0, none⟩), .int .i32 44] w fun e w' => e = .returned (.bool false) ∧ BI B w w' := by
  obtain ⟨hBg, vT, vW, hb, hS, hR⟩ := h
  have HBG := Aside0.mk hBg
  have HG0 := Aside0.mk hb
  have HS0 := Aside0.mk hS
  have HR0 := Aside0.mk hR
  have hx3 : w.cell? ⟨g, 3, none⟩ = some (.bool false) := (blk_cell hb 3).trans rfl
  have hx4 : w.cell? ⟨g, 4, none⟩ = some (.bool fld) := (blk_cell hb 4).trans rfl
  clear hBg hb hS hR
  go_enter Try.func24, Try.ntmps24
  go_wp2
  go_ret
  exact ⟨rfl, BI.refl _ _⟩
set_option maxHeartbeats 8000000 in
set_option maxRecDepth 100000 in
theorem sign_bad_comma_in (B g : Nat) (T : List S34) (wd : List Int) (nm : ByteArray) (w : World) (h : IsRd B g w T wd nm true false) :
    Calls Try.prog 24 #[.pointer (some ⟨g, 0, none⟩), .int .i32 44] w fun e w' => e = .returned (.bool false) ∧ BI B w w' := by
  obtain ⟨hBg, vT, vW, hb, hS, hR⟩ := h
  have HBG := Aside0.mk hBg
  have HG0 := Aside0.mk hb
  have HS0 := Aside0.mk hS
  have HR0 := Aside0.mk hR
  have hx3 : w.cell? ⟨g, 3, none⟩ = some (.bool true) := (blk_cell hb 3).trans rfl
  have hx4 : w.cell? ⟨g, 4, none⟩ = some (.bool false) := (blk_cell hb 4).trans rfl
  clear hBg hb hS hR
  go_enter Try.func24, Try.ntmps24
  go_wp2
  go_ret
  exact ⟨rfl, BI.refl _ _⟩
set_option maxHeartbeats 8000000 in
set_option maxRecDepth 100000 in
theorem sign_bad_close (B g : Nat) (T : List S34) (wd : List Int) (nm : ByteArray) (fld : Bool) (w : World) (h : IsRd B g w T wd nm false fld) :
    Calls Try.prog 24 #[.pointer (some ⟨g, 0, none⟩), .int .i32 125] w fun e w' => e = .returned (.bool false) ∧ BI B w w' := by
  obtain ⟨hBg, vT, vW, hb, hS, hR⟩ := h
  have HBG := Aside0.mk hBg
  have HG0 := Aside0.mk hb
  have HS0 := Aside0.mk hS
  have HR0 := Aside0.mk hR
  have hx3 : w.cell? ⟨g, 3, none⟩ = some (.bool false) := (blk_cell hb 3).trans rfl
  have hx4 : w.cell? ⟨g, 4, none⟩ = some (.bool fld) := (blk_cell hb 4).trans rfl
  clear hBg hb hS hR
  go_enter Try.func24, Try.ntmps24
  go_wp2
  go_ret
  exact ⟨rfl, BI.refl _ _⟩
set_option maxHeartbeats 8000000 in
set_option maxRecDepth 100000 in
theorem sign_word (B g : Nat) (T : List S34) (wd : List Int) (nm : ByteArray) (inn fld : Bool) (c : Int) (w : World) (h : IsRd B g w T wd nm inn fld) (h1 : (c == 123) = false) (h2 : (c == 58) = false) (h3 : (c == 44) = false) (h4 : (c == 125) = false) (hl : wd.length ≤ 1000000) :
    Calls Try.prog 24 #[.pointer (some ⟨g, 0, none⟩), .int .i32 c] w fun e w' => e = .returned (.bool true) ∧ IsRd B g w' T (wd ++ [c]) nm inn fld ∧ BI B w w' := by
  have HL := Aside0.mk hl
  clear hl
  obtain ⟨hBg, vT, vW, hb, hS, hR⟩ := h
  have HBG := Aside0.mk hBg
  have HG0 := Aside0.mk hb
  have HS0 := Aside0.mk hS
  have HR0 := Aside0.mk hR
  have hx3 : w.cell? ⟨g, 3, none⟩ = some (.bool inn) := (blk_cell hb 3).trans rfl
  have hx4 : w.cell? ⟨g, 4, none⟩ = some (.bool fld) := (blk_cell hb 4).trans rfl
  clear hBg hb hS hR
  go_enter Try.func24, Try.ntmps24
  have HBS := Aside0.mk (show B ≤ w.heap.size from Nat.le_trans HBG.out (Nat.le_of_lt (blk_lt HG0.out)))
  have hx1 : w.cell? ⟨g, 1, none⟩ = some vW := (blk_cell HG0.out 1).trans rfl
  go_wp2_with (first | ((with_reducible refine gate_builtin (b := .append) (xs := #[.tmp 9, .tmp 11]) rfl ?_); at_builtin; refine Kd.R_append (Kd.int .i32) (w0 := w) B rfl (.tmp 9) (.tmp 11) 45 21 (.int .i32 0) 4 rfl Try.underlying45 info_rune rfl (by decide) (by omega) vW wd c [.int .i32 c] (fun _ => True) (fun _ => False) rfl rfl rfl (fun _ hk => hk.elim) (fun _ _ => trivial) HR0.out (Below.refl _ _) HBS.out (by have := HL.out; omega) ?_; intro v1 w1 hR1 hB1 hg hat; obtain ⟨A9, c9, rfl⟩ := Kd.R_slice hR1; generalize (wd ++ [c]).length = n9 at hR1 ⊢; have HG1 := Aside0.mk (blk_grown HG0.out hg (Kd.R_ne HR0.out HG0.out (by decide))); have HS1 := Aside0.mk (Kd.S_over' HS0.out (Kd.R_typed HR0.out) (by decide) hg); have HR1 := Aside0.mk hR1; have HB1 := Aside0.mk ((BI.refl B w).grown hB1 hg (Kd.R_typed HR0.out)); have hy1 : w1.cell? ⟨g, 1, none⟩ = some vW := (blk_cell HG1.out 1).trans rfl; have hz1 : w1.frozen? ⟨g, 1, none⟩ = false := blk_frozen HG1.out 1; clear hR1 hB1 hg hat hx3 hx4 hx1))
  go_ret
  exact ⟨rfl, ⟨HBG.out, vT, _, blk_put HG1.out 1 _ rfl, Kd.S_set HS1.out HG1.out (by decide) 1 _, Kd.R_set HR1.out HG1.out (by decide) 1 _⟩, HB1.out.setCell HG1.out HBG.out 1 _⟩
/-- a reader's parts -/
structure RdS where
  T : List S34
  wd : List Int
  nm : ByteArray
  inn : Bool
  fld : Bool
def IsRdS (B g : Nat) (w : World) (s : RdS) : Prop := IsRd B g w s.T s.wd s.nm s.inn s.fld
/-- a field ends, or there is none -/
def endP (s : RdS) : Option RdS := if s.fld = true then (if ((readField s.nm (runesBytes s.wd)).f1 != -1) = true then some ⟨addLast s.T (readField s.nm (runesBytes s.wd)), [], s.nm, s.inn, false⟩ else none) else if (runesBytes s.wd).toList.isEmpty = true then some ⟨s.T, [], s.nm, s.inn, false⟩ else none
/-- one sign is read -/
def signP (s : RdS) (c : Int) : Option RdS :=
  if (c == 123) = true then (if s.inn = true then none else some ⟨s.T ++ [⟨runesBytes s.wd, []⟩], [], s.nm, true, s.fld⟩)
  else if (c == 58) = true then (if s.inn = true then (if s.fld = true then none else some ⟨s.T, [], runesBytes s.wd, true, true⟩) else none)
  else if (c == 44) = true then (if s.inn = true then (if s.fld = true then endP s else none) else none)
  else if (c == 125) = true then (if s.inn = true then endP ⟨s.T, s.wd, s.nm, false, s.fld⟩ else none)
  else some ⟨s.T, s.wd ++ [c], s.nm, s.inn, s.fld⟩
def okS (n : Nat) (s : RdS) : Prop := s.T.length ≤ n ∧ s.wd.length ≤ n ∧ (∀ t ∈ s.T, t.f1.length ≤ n) ∧ (s.inn = true → s.T ≠ [])
theorem getD_okS {n : Nat} {T : List S34} (h : ∀ t ∈ T, t.f1.length ≤ n) (i : Nat) : (T.getD i z34).f1.length ≤ n := by
  by_cases c : i < T.length
  · rw [List.getD_eq_getElem?_getD, List.getElem?_eq_getElem c]
    exact h _ (List.getElem_mem c)
  · rw [List.getD_eq_getElem?_getD, List.getElem?_eq_none (by omega)]
    exact Nat.zero_le _
theorem okS_end {n : Nat} {s s' : RdS} (h : okS n s) (hs : endP s = some s') : okS (n + 1) s' := by
  obtain ⟨h1, h2, h3, h4⟩ := h
  unfold endP at hs
  have hT : ∀ f : S40, ∀ t ∈ addLast s.T f, t.f1.length ≤ n + 1 := fun f t ht => by
    rcases List.mem_or_eq_of_mem_set ht with hm | rfl
    · exact Nat.le_succ_of_le (h3 t hm)
    · have := getD_okS h3 (s.T.length - 1)
      simp only [List.length_append, List.length_cons, List.length_nil]
      omega
  split at hs
  · split at hs
    · obtain rfl := Option.some.inj hs
      refine ⟨?_, Nat.zero_le _, hT _, fun hi he => h4 hi ?_⟩
      · show (addLast s.T _).length ≤ n + 1
        unfold addLast
        rw [List.length_set]
        omega
      · have he' : (addLast s.T (readField s.nm (runesBytes s.wd))) = [] := he
        have := congrArg List.length he'
        unfold addLast at this
        rw [List.length_set] at this
        exact List.eq_nil_of_length_eq_zero this
    · exact absurd hs (by simp)
  · split at hs
    · obtain rfl := Option.some.inj hs
      exact ⟨Nat.le_succ_of_le h1, Nat.zero_le _, fun t ht => Nat.le_succ_of_le (h3 t ht), h4⟩
    · exact absurd hs (by simp)
theorem okS_sign {n : Nat} {s s' : RdS} {c : Int} (h : okS n s) (hs : signP s c = some s') : okS (n + 1) s' := by
  have h0 := h
  obtain ⟨h1, h2, h3, h4⟩ := h0
  unfold signP at hs
  split at hs
  · split at hs
    · exact absurd hs (by simp)
    · obtain rfl := Option.some.inj hs
      refine ⟨by simp only [List.length_append, List.length_cons, List.length_nil]; omega, Nat.zero_le _, fun t ht => ?_, fun _ => by simp⟩
      rcases List.mem_append.1 ht with hm | hm
      · exact Nat.le_succ_of_le (h3 t hm)
      · rw [List.mem_singleton.1 hm]
        exact Nat.zero_le _
  · split at hs
    · split at hs
      · split at hs
        · exact absurd hs (by simp)
        · obtain rfl := Option.some.inj hs
          rename_i hi _
          exact ⟨Nat.le_succ_of_le h1, Nat.zero_le _, fun t ht => Nat.le_succ_of_le (h3 t ht), fun _ => h4 hi⟩
      · exact absurd hs (by simp)
    · split at hs
      · split at hs
        · split at hs
          · exact okS_end h hs
          · exact absurd hs (by simp)
        · exact absurd hs (by simp)
      · split at hs
        · split at hs
          · exact okS_end (s := ⟨s.T, s.wd, s.nm, false, s.fld⟩) ⟨h1, h2, h3, fun hi => absurd hi (by simp)⟩ hs
          · exact absurd hs (by simp)
        · obtain rfl := Option.some.inj hs
          exact ⟨Nat.le_succ_of_le h1, by simp only [List.length_append, List.length_cons, List.length_nil]; omega, fun t ht => Nat.le_succ_of_le (h3 t ht), h4⟩
theorem endP_on (T : List S34) (wd : List Int) (nm : ByteArray) (inn : Bool) : endP ⟨T, wd, nm, inn, true⟩ = if ((readField nm (runesBytes wd)).f1 != -1) = true then some ⟨addLast T (readField nm (runesBytes wd)), [], nm, inn, false⟩ else none := if_pos rfl
theorem endP_off (T : List S34) (wd : List Int) (nm : ByteArray) (inn : Bool) : endP ⟨T, wd, nm, inn, false⟩ = if (runesBytes wd).toList.isEmpty = true then some ⟨T, [], nm, inn, false⟩ else none := if_neg (show ¬ (false = true) by decide)
theorem if_is {α : Type} (b : Bool) (x : α) : (if b = true then some x else none).isSome = b := by cases b <;> rfl
theorem if_it {α : Type} {b : Bool} {x y : α} (h : (if b = true then some x else none) = some y) : x = y := by
  cases b with
  | true => exact Option.some.inj h
  | false => exact absurd h (by simp)
theorem sign_calls (B g n : Nat) (s : RdS) (c : Int) (w : World) (h : IsRdS B g w s) (ho : okS n s) (hn : n ≤ 1000000) :
    Calls Try.prog 24 #[.pointer (some ⟨g, 0, none⟩), .int .i32 c] w fun e w' => e = .returned (.bool (signP s c).isSome) ∧ (∀ s', signP s c = some s' → IsRdS B g w' s') ∧ BI B w w' := by
  obtain ⟨T, wd, nm, inn, fld⟩ := s
  obtain ⟨o1, o2, o3, o4⟩ := ho
  have h' : IsRd B g w T wd nm inn fld := h
  have o1' : T.length ≤ n := o1
  have o2' : wd.length ≤ n := o2
  have o5 : (T.getD (T.length - 1) z34).f1.length ≤ n := getD_okS o3 _
  cases c1 : (c == 123) with
  | true =>
    obtain rfl : c = 123 := eq_of_beq c1
    cases inn with
    | true =>
      refine (sign_bad_open B g T wd nm fld w h').mono ?_
      rintro e w' ⟨rfl, hb⟩
      exact ⟨rfl, fun s' hs => absurd (show none = some s' from hs) (by simp), hb⟩
    | false =>
      refine (sign_open B g T wd nm fld w h' (by omega)).mono ?_
      rintro e w' ⟨rfl, hi, hb⟩
      refine ⟨rfl, fun s' hs => ?_, hb⟩
      obtain rfl := Option.some.inj hs
      exact hi.rd
  | false =>
  cases c2 : (c == 58) with
  | true =>
    obtain rfl : c = 58 := eq_of_beq c2
    cases inn with
    | false =>
      refine (sign_bad_colon_out B g T wd nm fld w h').mono ?_
      rintro e w' ⟨rfl, hb⟩
      exact ⟨rfl, fun s' hs => absurd (show none = some s' from hs) (by simp), hb⟩
    | true =>
      cases fld with
      | true =>
        refine (sign_bad_colon_in B g T wd nm w h').mono ?_
        rintro e w' ⟨rfl, hb⟩
        exact ⟨rfl, fun s' hs => absurd (show none = some s' from hs) (by simp), hb⟩
      | false =>
        refine (sign_colon B g T wd nm w h').mono ?_
        rintro e w' ⟨rfl, hi, hb⟩
        refine ⟨rfl, fun s' hs => ?_, hb⟩
        obtain rfl := Option.some.inj hs
        exact hi.rd
  | false =>
  cases c3 : (c == 44) with
  | true =>
    obtain rfl : c = 44 := eq_of_beq c3
    cases inn with
    | false =>
      refine (sign_bad_comma_out B g T wd nm fld w h').mono ?_
      rintro e w' ⟨rfl, hb⟩
      exact ⟨rfl, fun s' hs => absurd (show none = some s' from hs) (by simp), hb⟩
    | true =>
      cases fld with
      | false =>
        refine (sign_bad_comma_in B g T wd nm w h').mono ?_
        rintro e w' ⟨rfl, hb⟩
        exact ⟨rfl, fun s' hs => absurd (show none = some s' from hs) (by simp), hb⟩
      | true =>
        have e1 : signP ⟨T, wd, nm, true, true⟩ 44 = endP ⟨T, wd, nm, true, true⟩ := rfl
        rw [e1, endP_on]
        refine (sign_comma B g T wd nm w h' (o4 rfl) (by omega) (by omega)).mono ?_
        rintro e w' ⟨rfl, hi, hb⟩
        refine ⟨by rw [if_is], fun s' hs => ?_, hb⟩
        obtain rfl := if_it hs
        exact hi.rd
  | false =>
  cases c4 : (c == 125) with
  | true =>
    obtain rfl : c = 125 := eq_of_beq c4
    cases inn with
    | false =>
      refine (sign_bad_close B g T wd nm fld w h').mono ?_
      rintro e w' ⟨rfl, hb⟩
      exact ⟨rfl, fun s' hs => absurd (show none = some s' from hs) (by simp), hb⟩
    | true =>
      cases fld with
      | true =>
        have e1 : signP ⟨T, wd, nm, true, true⟩ 125 = endP ⟨T, wd, nm, false, true⟩ := rfl
        rw [e1, endP_on]
        refine (sign_close_on B g T wd nm w h' (o4 rfl) (by omega) (by omega)).mono ?_
        rintro e w' ⟨rfl, hi, hb⟩
        refine ⟨by rw [if_is], fun s' hs => ?_, hb⟩
        obtain rfl := if_it hs
        exact hi.rd
      | false =>
        have e1 : signP ⟨T, wd, nm, true, false⟩ 125 = endP ⟨T, wd, nm, false, false⟩ := rfl
        rw [e1, endP_off]
        refine (sign_close_off B g T wd nm w h').mono ?_
        rintro e w' ⟨rfl, hi, hb⟩
        refine ⟨by rw [if_is], fun s' hs => ?_, hb⟩
        obtain rfl := if_it hs
        exact hi.rd
  | false =>
    have e1 : signP ⟨T, wd, nm, inn, fld⟩ c = some ⟨T, wd ++ [c], nm, inn, fld⟩ := by
      unfold signP
      rw [c1, c2, c3, c4]
      rfl
    rw [e1]
    refine (sign_word B g T wd nm inn fld c w h' c1 c2 c3 c4 (by omega)).mono ?_
    rintro e w' ⟨rfl, hi, hb⟩
    refine ⟨rfl, fun s' hs => ?_, hb⟩
    obtain rfl := Option.some.inj hs
    exact hi

/-! ### schema_Read: function 11 -/
/-- the signs from a place on are read -/
def readF (a : ByteArray) : Nat → Nat → RdS → Option RdS
  | 0, _, s => some s
  | f + 1, pos, s => if pos < a.size then ((signP s ((Utf8.decode a pos).1 : Int)).bind fun s' => readF a f (pos + (Utf8.decode a pos).2) s') else some s
def start0 : RdS := ⟨[], [], ⟨#[]⟩, false, false⟩
def schema_Read.f (k : Nat) (a0 : ByteArray) : Option (List S34 × Bool) := if a0.size ≤ 100000 then ((readF a0 a0.size 0 start0).elim (some ([], false)) fun s => (schema_Text.f k s.T).bind fun t => some (if (t.toList != a0.toList || a0.toList.isEmpty) = true then ([], false) else (s.T, true))) else none
theorem schema_Read.mono (a0 : ByteArray) (k : Nat) : LeO (schema_Read.f k a0) (schema_Read.f (k + 1) a0) := by
  unfold schema_Read.f
  by_cases c : a0.size ≤ 100000
  · rw [if_pos c, if_pos c]
    cases readF a0 a0.size 0 start0 with
    | none => exact LeO.refl _
    | some s => exact LeO.bind (schema_Text.mono _ _) fun _ => LeO.refl _
  · rw [if_neg c, if_neg c]
    exact LeO.refl _
theorem readF_end (a : ByteArray) (f pos : Nat) (s : RdS) (h : ¬ pos < a.size) : readF a f pos s = some s := by
  cases f with
  | zero => rfl
  | succ f => unfold readF; rw [if_neg h]
theorem IsRd.iterAt {B g k p : Nat} {a : ByteArray} {w : World} {T : List S34} {wd : List Int} {nm : ByteArray} {inn fld : Bool} (h : IsRd B g w T wd nm inn fld) (hk : w.heap[k]? = some (.stringIter a p)) (p' : Nat) : IsRd B g (w.iterAt k a p') T wd nm inn fld := by
  obtain ⟨h0, vT, vW, hb, hS, hR⟩ := h
  have hne : ∀ (j : Nat) (t : TypeId) (cells : Array Value), w.heap[j]? = some (.cells cells t (0, 0)) → j ≠ k := fun j t cells hj => by
    rintro rfl
    rw [hk] at hj
    exact Obj.noConfusion (Option.some.inj hj)
  refine ⟨h0, vT, vW, (Lib.iterAt_other w k g a p' (hne _ _ _ hb)).trans hb, Kd.S_mono (Kd.S_move (Kd.S_bound hS) fun j hj => ?_) (fun _ _ => trivial), Kd.R_mono (Kd.R_move (Kd.R_bound hR) fun j hj => ?_) (fun _ _ => trivial)⟩
  · obtain ⟨q, _, cells, hc⟩ := hj.2.2.2
    exact Lib.iterAt_other w k j a p' (hne _ _ _ hc)
  · obtain ⟨q, _, cells, hc⟩ := hj.2.2.2
    exact Lib.iterAt_other w k j a p' (hne _ _ _ hc)
theorem rd_less {B B' : Nat} {w w' : World} (h : Below B w w') (hB : B' ≤ B) : Below B' w w' := ⟨h.os, h.tape, h.output, h.size, fun k hk => h.block k (Nat.lt_of_lt_of_le hk hB)⟩
theorem three_at (w : World) (o0 o1 o2 : Obj) : (((w.alloc o0).alloc o1).alloc o2).heap[w.heap.size]? = some o0 ∧ (((w.alloc o0).alloc o1).alloc o2).heap[w.heap.size + 1]? = some o1 ∧ (((w.alloc o0).alloc o1).alloc o2).heap[w.heap.size + 2]? = some o2 ∧ Below w.heap.size w (((w.alloc o0).alloc o1).alloc o2) := by
  have h2 : (((w.alloc o0).alloc o1).alloc o2).heap[w.heap.size + 2]? = some o2 := by
    have := blk_new ((w.alloc o0).alloc o1) o2
    rwa [World.size_alloc, World.size_alloc] at this
  exact ⟨blk_alloc (blk_alloc (blk_new w o0) _) _, blk_alloc (blk_new2 w o0 o1) _, h2, below_alloc (below_alloc (below_alloc (Below.refl _ _) _) _) _⟩
set_option maxHeartbeats 8000000 in
set_option maxRecDepth 100000 in
theorem schema_Read.calls (k : Nat) (a0 : ByteArray) (r1 : List S34) (r2 : Bool) (w : World) (h : schema_Read.f k a0 = some (r1, r2)) :
    Calls Try.prog 11 #[.string a0] w fun e w' => ∃ v1_ : Value, e = .returned (.tuple #[.agg #[v1_], .bool r2]) ∧ Kd.S k34 34 w' w.heap.size (fun _ => True) v1_ r1 ∧ Below w.heap.size w w' := by
  unfold schema_Read.f at h
  by_cases c : a0.size ≤ 100000
  rotate_left
  · rw [if_neg c] at h
    exact absurd h (by simp)
  rw [if_pos c] at h
  obtain ⟨R0, hR0⟩ : ∃ R0, R0 = readF a0 a0.size 0 start0 := ⟨_, rfl⟩
  rw [← hR0] at h
  have HH := Aside0.mk h
  have HR0 := Aside0.mk hR0.symm
  have HC := Aside0.mk c
  clear h c hR0
  go_enter Try.func11, Try.ntmps11
  go_wp2
  have W0 : ∀ w1 : World, w1 = ((w.alloc (.cells #[.slice none 0 0] 24)).alloc (.cells #[.slice none 0 0, .slice none 0 0, .string ⟨#[]⟩, .bool false, .bool false] 47)).iter a0 0 → w1.heap[w.heap.size + 1 + 1]? = some (.stringIter a0 0) ∧ w1.heap[w.heap.size]? = some (.cells #[.slice none 0 0] 24 (0, 0)) ∧ IsRdS (w.heap.size + 1) (w.heap.size + 1) w1 start0 ∧ Below w.heap.size w w1 := fun w1 hw => by
    obtain ⟨h0, h1, h2, h3⟩ := three_at w (.cells #[.slice none 0 0] 24) (.cells #[.slice none 0 0, .slice none 0 0, .string ⟨#[]⟩, .bool false, .bool false] 47) (.stringIter a0 0)
    subst hw
    exact ⟨h2, h0, ⟨Nat.le_refl _, _, _, h1, Kd.S_nil _ _ _ _ _, Kd.R_nil _ _ _ _ _⟩, h3⟩
  have HW0 := Aside0.mk W0
  clear W0
  go_loopw [] (fun wr => ∃ (pos fuel n : Nat) (s : RdS), Aside0 (wr.heap[w.heap.size + 1 + 1]? = some (.stringIter a0 pos)) ∧ Aside0 (wr.heap[w.heap.size]? = some (.cells #[.slice none 0 0] 24 (0, 0))) ∧ Aside0 (IsRdS (w.heap.size + 1) (w.heap.size + 1) wr s) ∧ Aside0 (okS n s) ∧ Aside0 (Below w.heap.size w wr) ∧ Aside0 (readF a0 fuel pos s = R0) ∧ Aside0 (a0.size ≤ pos + fuel ∧ n ≤ pos)) (fun wr => a0.size - wr.iterPos (w.heap.size + 1 + 1))
  case atStart =>
    obtain ⟨h1, h2, h3, h4⟩ := HW0.out _ rfl
    exact ⟨0, a0.size, 0, start0, ⟨h1⟩, ⟨h2⟩, ⟨h3⟩, ⟨⟨Nat.le_refl _, Nat.le_refl _, fun t ht => absurd ht (by simp [start0]), fun hi => absurd hi (by decide)⟩⟩, ⟨h4⟩, HR0, ⟨by omega, by omega⟩⟩
  case round =>
    clear HW0 HR0
    obtain ⟨pos, fuel, n, s, HIT, HO, HI, HOK, HB, HF, HS⟩ := hrel
    by_cases hp : pos < a0.size
    · have hnx : ∀ ty, (Instr.next (.pointer (some ⟨w.heap.size + 1 + 1, 0, none⟩)) true ty).run Try.prog wr = _ := fun ty => Lib.run_next_any_at wr (w.heap.size + 1 + 1) a0 pos ty HIT.out hp
      have hwd := decode_wide a0 pos hp
      obtain ⟨fuel, rfl⟩ : ∃ q, fuel = q + 1 := ⟨fuel - 1, by have := HS.out; omega⟩
      have hf := HF.out
      unfold readF at hf
      rw [if_pos hp] at hf
      have HS2 := Aside0.mk (show a0.size ≤ pos + (Utf8.decode a0 pos).2 + fuel ∧ n + 1 ≤ pos + (Utf8.decode a0 pos).2 by have := HS.out; omega)
      have HM := Aside0.mk (show a0.size - (pos + (Utf8.decode a0 pos).2) < a0.size - pos by omega)
      have HN := Aside0.mk (show n ≤ 1000000 by have := HS.out; have := HC.out; omega)
      have HI2 := Aside0.mk (Lib.iterAt_heap wr (w.heap.size + 1 + 1) a0 pos (pos + (Utf8.decode a0 pos).2) HIT.out)
      have HO2 := Aside0.mk ((Lib.iterAt_other wr (w.heap.size + 1 + 1) w.heap.size a0 (pos + (Utf8.decode a0 pos).2) (by omega)).trans HO.out)
      have HR2 : Aside0 (IsRdS (w.heap.size + 1) (w.heap.size + 1) (wr.iterAt (w.heap.size + 1 + 1) a0 (pos + (Utf8.decode a0 pos).2)) s) := ⟨IsRd.iterAt HI.out HIT.out _⟩
      have HB2 := Aside0.mk (Lib.below_iterAt HB.out (k := w.heap.size + 1 + 1) (by omega) a0 (pos + (Utf8.decode a0 pos).2))
      have HIP := Aside0.mk (show wr.iterPos (w.heap.size + 1 + 1) = pos by simp only [World.iterPos, HIT.out])
      obtain ⟨d, hd⟩ : ∃ d : Int, d = ((Utf8.decode a0 pos).1 : Int) := ⟨_, rfl⟩
      rw [← hd] at hf hnx
      have HF2 := Aside0.mk hf
      clear hwd hp HS HF hf hd HI HO HIT HB
      cases hs : signP s d with
      | none =>
        have HSN := Aside0.mk hs
        have hr : R0 = none := by rw [← HF2.out, hs]; rfl
        have hh := HH.out
        rw [hr] at hh
        obtain ⟨rfl, rfl⟩ : [] = r1 ∧ false = r2 := by
          have := Option.some.inj (show some (([] : List S34), false) = some (r1, r2) from hh)
          exact Prod.mk.inj this
        clear hs hr hh HF2
        go_wp2_with (first | (go_at_call 24; refine (sign_calls (w.heap.size + 1) (w.heap.size + 1) n s d _ HR2.out HOK.out HN.out).mono ?_; rw [HSN.out]; rintro e w1 ⟨rfl, hi, hb⟩; have HO3 := Aside0.mk ((hb.1.block w.heap.size (Nat.lt_succ_self _)).trans HO2.out); have HB3 := Aside0.mk (HB2.out.trans (rd_less hb.1 (Nat.le_succ _))); have hc0 : w1.cell? ⟨w.heap.size, 0, none⟩ = some (.slice none 0 0) := (blk_cell HO3.out 0).trans rfl; have hz0 : w1.frozen? ⟨w.heap.size, 0, none⟩ = false := blk_frozen HO3.out 0; clear hb hi))
        refine bodyPost_ret (results_ct rfl _ _ w.heap.size 24 #[.slice none 0 0] (0, 0) _ rfl (blk_put HO3.out 0 _ rfl) Try.underlying24 rfl (by kernel_rfl)) rfl ?_
        exact ⟨_, rfl, Kd.S_nil _ _ _ _ _, HB3.out.setCell (p := ⟨w.heap.size, 0, none⟩) (Nat.le_refl _) _⟩
      | some s' =>
        have HSN := Aside0.mk hs
        have HF3 := Aside0.mk (show readF a0 fuel (pos + (Utf8.decode a0 pos).2) s' = R0 from by rw [← HF2.out, hs]; rfl)
        have HOK2 := Aside0.mk (okS_sign HOK.out hs)
        clear hs HF2 HH
        go_wp2_with (first | (go_at_call 24; refine (sign_calls (w.heap.size + 1) (w.heap.size + 1) n s d _ HR2.out HOK.out HN.out).mono ?_; rw [HSN.out]; rintro e w1 ⟨rfl, hi, hb⟩; have HO3 := Aside0.mk ((hb.1.block w.heap.size (Nat.lt_succ_self _)).trans HO2.out); have HB3 := Aside0.mk (HB2.out.trans (rd_less hb.1 (Nat.le_succ _))); have HI3 := Aside0.mk (hi s' rfl); have HT3 := Aside0.mk (hb.2 _ _ _ HI2.out); clear hb hi))
        refine ⟨⟨_, fuel, n + 1, s', HT3, HO3, HI3, HOK2, HB3, HF3, HS2⟩, ?_⟩
        rw [HIP.out]
        have h1 := HT3.out
        simp only [World.iterPos, h1]
        exact HM.out
    · have hnx : ∀ ty, (Instr.next (.pointer (some ⟨w.heap.size + 1 + 1, 0, none⟩)) true ty).run Try.prog wr = _ := fun ty => Lib.run_next_end_at wr (w.heap.size + 1 + 1) a0 pos ty HIT.out hp
      have hf := HF.out
      rw [readF_end a0 fuel pos s hp] at hf
      have hh := HH.out
      rw [← hf] at hh
      obtain ⟨t, ht, hh⟩ := Option.bind_eq_some_iff.mp (show ((schema_Text.f k s.T).bind fun t => some (if (t.toList != a0.toList || a0.toList.isEmpty) = true then ([], false) else (s.T, true))) = some (r1, r2) from hh)
      have HT := Aside0.mk ht
      have hhh := Option.some.inj hh
      obtain ⟨hBg, vT, vW, hb, hS, hR⟩ := HI.out
      obtain ⟨AT, cT, rfl, hcT, hCT⟩ := Kd.S_reads hS
      have HG := Aside0.mk hb
      have HST := Aside0.mk hS
      have HCT := Aside0.mk hCT
      have HLT := Aside0.mk hcT
      have hc0 : wr.cell? ⟨w.heap.size + 1, 0, none⟩ = some (.slice AT s.T.length cT) := (blk_cell hb 0).trans rfl
      clear hf ht hh hBg hb hS hR hcT hCT HF HH HIT HI HOK HS hp
      clear hc0
      have hc0 : wr.cell? ⟨w.heap.size + 1, 0, none⟩ = some (.slice AT s.T.length cT) := (blk_cell HG.out 0).trans rfl
      cases hx : (t.toList == a0.toList) with
      | false =>
        rw [show (t.toList != a0.toList) = true from by unfold bne; rw [hx]; rfl, Bool.true_or, if_pos rfl] at hhh
        obtain ⟨rfl, rfl⟩ := Prod.mk.inj hhh
        clear hhh
        go_wp2_with (first | (go_at_call 19; refine (schema_Text.calls k AT cT s.T t wr HCT.out HLT.out HT.out).mono ?_; rintro e w2 ⟨rfl, hb⟩; have HB2 := Aside0.mk hb; have HO2 := Aside0.mk (blk_below HO.out hb); have HG2 := Aside0.mk (blk_below HG.out hb); have hc2 : w2.cell? ⟨w.heap.size, 0, none⟩ = some (.slice none 0 0) := (blk_cell HO2.out 0).trans rfl; have hz2 : w2.frozen? ⟨w.heap.size, 0, none⟩ = false := blk_frozen HO2.out 0; have hg2 : w2.cell? ⟨w.heap.size + 1, 0, none⟩ = some (.slice AT s.T.length cT) := (blk_cell HG2.out 0).trans rfl; clear hb))
        refine bodyPost_ret (results_ct rfl _ _ w.heap.size 24 #[.slice none 0 0] (0, 0) _ rfl (blk_put HO2.out 0 _ rfl) Try.underlying24 rfl (by kernel_rfl)) rfl ?_
        exact ⟨_, rfl, Kd.S_nil _ _ _ _ _, (HB.out.trans (rd_less HB2.out HB.out.size)).setCell (p := ⟨w.heap.size, 0, none⟩) (Nat.le_refl _) _⟩
      | true =>
        cases hy : a0.toList.isEmpty with
        | true =>
          rw [show (t.toList != a0.toList) = false from by unfold bne; rw [hx]; rfl, hy, Bool.false_or, if_pos rfl] at hhh
          obtain ⟨rfl, rfl⟩ := Prod.mk.inj hhh
          clear hhh
          go_wp2_with (first | (go_at_call 19; refine (schema_Text.calls k AT cT s.T t wr HCT.out HLT.out HT.out).mono ?_; rintro e w2 ⟨rfl, hb⟩; have HB2 := Aside0.mk hb; have HO2 := Aside0.mk (blk_below HO.out hb); have HG2 := Aside0.mk (blk_below HG.out hb); have hc2 : w2.cell? ⟨w.heap.size, 0, none⟩ = some (.slice none 0 0) := (blk_cell HO2.out 0).trans rfl; have hz2 : w2.frozen? ⟨w.heap.size, 0, none⟩ = false := blk_frozen HO2.out 0; have hg2 : w2.cell? ⟨w.heap.size + 1, 0, none⟩ = some (.slice AT s.T.length cT) := (blk_cell HG2.out 0).trans rfl; clear hb))
          refine bodyPost_ret (results_ct rfl _ _ w.heap.size 24 #[.slice none 0 0] (0, 0) _ rfl (blk_put HO2.out 0 _ rfl) Try.underlying24 rfl (by kernel_rfl)) rfl ?_
          exact ⟨_, rfl, Kd.S_nil _ _ _ _ _, (HB.out.trans (rd_less HB2.out HB.out.size)).setCell (p := ⟨w.heap.size, 0, none⟩) (Nat.le_refl _) _⟩
        | false =>
          rw [show (t.toList != a0.toList) = false from by unfold bne; rw [hx]; rfl, hy, Bool.false_or, if_neg (by decide)] at hhh
          obtain ⟨rfl, rfl⟩ := Prod.mk.inj hhh
          clear hhh
          go_wp2_with (first | (go_at_call 19; refine (schema_Text.calls k AT cT s.T t wr HCT.out HLT.out HT.out).mono ?_; rintro e w2 ⟨rfl, hb⟩; have HB2 := Aside0.mk hb; have HO2 := Aside0.mk (blk_below HO.out hb); have HG2 := Aside0.mk (blk_below HG.out hb); have hc2 : w2.cell? ⟨w.heap.size, 0, none⟩ = some (.slice none 0 0) := (blk_cell HO2.out 0).trans rfl; have hz2 : w2.frozen? ⟨w.heap.size, 0, none⟩ = false := blk_frozen HO2.out 0; have hg2 : w2.cell? ⟨w.heap.size + 1, 0, none⟩ = some (.slice AT s.T.length cT) := (blk_cell HG2.out 0).trans rfl; clear hb))
          refine bodyPost_ret (results_ct rfl _ _ w.heap.size 24 #[.slice AT s.T.length cT] (0, 0) _ rfl (blk_put HO2.out 0 _ rfl) Try.underlying24 rfl (by kernel_rfl)) rfl ?_
          exact ⟨_, rfl, Kd.S_set (Kd.S_lower (Kd.S_below HST.out HB2.out) (Nat.le_succ _)) HO2.out (by decide) 0 _, (HB.out.trans (rd_less HB2.out HB.out.size)).setCell (p := ⟨w.heap.size, 0, none⟩) (Nat.le_refl _) _⟩

-- NOT PRINTED: function 33 (api_Type_33)

/-! ### api_Field_35: function 35 -/
def api_Field_35.l0 : Nat → List (S40) → List (S40) → Int → Int → Option (Bool)
  | 0, _, _, _, _ => none
  | k + 1, x0, x1, x12, x13 => if x13 < x12 then (if 0 ≤ x13 then (if x13 < (x0.length : Int) then (if x13 < (x1.length : Int) then (if (!((((rd_T40 x0 x13).f0).toList) == (((rd_T40 x1 x13).f0).toList)) || (!(((rd_T40 x0 x13).f1) == ((rd_T40 x1 x13).f1)) || (!((((rd_T40 x0 x13).f2).toList) == (((rd_T40 x1 x13).f2).toList))))) = true then (some false) else (api_Field_35.l0 k x0 x1 x12 (wrap64 (x13 + 1)))) else (none)) else (none)) else (none)) else (some true)
def api_Field_35.f (k : Nat) (l0 : List (S40)) (l1 : List (S40)) : Option (Bool) := if (l0.length : Int) = (l1.length : Int) then (api_Field_35.l0 k l0 l1 (l0.length : Int) 0) else (some false)
theorem api_Field_35.mono_l : ∀ k, (∀ y0 y1 y2 y3, LeO (api_Field_35.l0 k y0 y1 y2 y3) (api_Field_35.l0 (k + 1) y0 y1 y2 y3))
  | 0 => fun _ _ _ _ r h => by simp [api_Field_35.l0] at h
  | k + 1 => by
    have ih0 := api_Field_35.mono_l k
    · intro y0 y1 y2 y3
      unfold api_Field_35.l0
      repeat' first
      | (with_reducible exact ih0 _ _ _ _)
      | (with_reducible exact LeO.refl _)
      | (with_reducible exact LeO.none _)
      | (with_reducible refine LeO.ite ?_ ?_)
      | (with_reducible refine LeO.bind ?_ (fun _ => ?_))
      | exact ih0 _ _ _ _
      | exact LeO.none _
      | refine LeO.ite ?_ ?_
      | refine LeO.bind ?_ (fun _ => ?_)
theorem api_Field_35.mono : ∀ a0 a1 k, LeO (api_Field_35.f k a0 a1) (api_Field_35.f (k + 1) a0 a1) := by
  intro a0 a1 k
  have ih0 := api_Field_35.mono_l k
  unfold api_Field_35.f
  repeat' first
      | (with_reducible exact ih0 _ _ _ _)
      | (with_reducible exact LeO.refl _)
      | (with_reducible exact LeO.none _)
      | (with_reducible refine LeO.ite ?_ ?_)
      | (with_reducible refine LeO.bind ?_ (fun _ => ?_))
      | exact ih0 _ _ _ _
      | exact LeO.none _
      | refine LeO.ite ?_ ?_
      | refine LeO.bind ?_ (fun _ => ?_)
set_option maxHeartbeats 8000000 in
set_option maxRecDepth 100000 in
theorem api_Field_35.calls (k : Nat) (A0 : Option Addr) (c0 : Nat) (l0 : List (S40)) (A1 : Option Addr) (c1 : Nat) (l1 : List (S40)) (r : Bool) (w : World) (hr0 : Kd.C k40 w A0 l0.length l0) (hc0 : l0.length ≤ c0) (hr1 : Kd.C k40 w A1 l1.length l1) (hc1 : l1.length ≤ c1) (h : api_Field_35.f k l0 l1 = some r) :
    Calls Try.prog 35 #[.slice A0 l0.length c0, .slice A1 l1.length c1] w fun e w' => e = .returned (.bool r) ∧ Drawn0 w w' := by
  have hu40 := Try.underlying40
  have HR0 := Aside0.mk hr0
  have HC0 := Aside0.mk hc0
  clear hr0 hc0
  have HR1 := Aside0.mk hr1
  have HC1 := Aside0.mk hc1
  clear hr1 hc1
  have H : (if (l0.length : Int) = (l1.length : Int) then (api_Field_35.l0 k l0 l1 (l0.length : Int) 0) else (some false)) = some r := h
  clear h
  by_cases c3 : (l0.length : Int) = (l1.length : Int)
  · rw [if_pos c3] at H
    have c3b0 : ((l0.length : Int) == (l1.length : Int)) = true := beq_iff_eq.mpr c3
    have c3b1 : ((l0.length : Int) != (l1.length : Int)) = false := bne_eq_false_iff_eq.mpr c3
    have c3b2 : (l0.length == l1.length) = true := by first | simpa using c3 | (simp at c3 ⊢; omega)
    clear c3
    have H' := Aside0.mk H
    clear H
    go_enter Try.func35, Try.ntmps35
    go_wp2
    repeat (go_quiet (fail); try go_wp2)
    go_loopg [13] k (fun kq v13 w' => ∃ (x13_1 : Int), v13 = .int .i64 x13_1 ∧ Aside0 (api_Field_35.l0 kq l0 l1 (l0.length : Int) x13_1 = some r) ∧ Aside0 (kq ≤ k) ∧ Drawn0 w w')
    case atStart => exact ⟨(0), (by first | rfl | (simp; done) | (simp [*]; done)), H', ⟨Nat.le_refl _⟩, by repeat (first | exact Drawn0.refl _ | apply Drawn0.step)⟩
    case round =>
      clear H'
      try clear c1
      try clear p2
      try clear c3
      try clear c3b0
      try clear c3b1
      try clear c3b2
      obtain ⟨x13_1, rfl, HA, HK1, ⟨m1, rfl⟩⟩ := hrel
      cases gk with
      | zero => exact absurd HA.out (by simp [api_Field_35.l0])
      | succ k1 =>
        have H := HA.out
        clear HA
        simp only [api_Field_35.l0] at H
        by_cases c4 : x13_1 < (l0.length : Int)
        · rw [if_pos c4] at H
          have c4b0 : decide (x13_1 < (l0.length : Int)) = true := decide_eq_true c4
          clear c4
          by_cases c5 : 0 ≤ x13_1
          · rw [if_pos c5] at H
            have c5b0 : decide (0 ≤ x13_1) = true := decide_eq_true c5
            clear c5
            by_cases c6 : x13_1 < (l0.length : Int)
            · rw [if_pos c6] at H
              have c6b0 : decide (x13_1 < (l0.length : Int)) = true := decide_eq_true c6
              clear c6
              by_cases c7 : x13_1 < (l1.length : Int)
              · rw [if_pos c7] at H
                have c7b0 : decide (x13_1 < (l1.length : Int)) = true := decide_eq_true c7
                clear c7
                by_cases c8 : (!((((rd_T40 l0 x13_1).f0).toList) == (((rd_T40 l1 x13_1).f0).toList)) || (!(((rd_T40 l0 x13_1).f1) == ((rd_T40 l1 x13_1).f1)) || (!((((rd_T40 l0 x13_1).f2).toList) == (((rd_T40 l1 x13_1).f2).toList))))) = true
                · rw [if_pos c8] at H
                  have c8b0 : (!((((rd_T40 l0 x13_1).f0).toList) == (((rd_T40 l1 x13_1).f0).toList)) || (!(((rd_T40 l0 x13_1).f1) == ((rd_T40 l1 x13_1).f1)) || (!((((rd_T40 l0 x13_1).f2).toList) == (((rd_T40 l1 x13_1).f2).toList))))) = true := c8
                  clear c8
                  obtain rfl := Option.some.inj H
                  have p121 : 0 ≤ (x13_1 : Int) := of_decide_eq_true (by first | (with_reducible assumption) | assumption)
                  have q121 : x13_1 < (l0.length : Int) := of_decide_eq_true (by first | (with_reducible assumption) | assumption)
                  obtain ⟨ad121, e121, hx121_0, hx121_1, hx121_2⟩ := at_T40 HR0.out x13_1 p121 q121
                  cases e121
                  replace p121 := eq_true p121
                  replace q121 := eq_true q121
                  have p122 : 0 ≤ (x13_1 : Int) := of_decide_eq_true (by first | (with_reducible assumption) | assumption)
                  have q122 : x13_1 < (l1.length : Int) := of_decide_eq_true (by first | (with_reducible assumption) | assumption)
                  obtain ⟨ad122, e122, hx122_0, hx122_1, hx122_2⟩ := at_T40 HR1.out x13_1 p122 q122
                  cases e122
                  replace p122 := eq_true p122
                  replace q122 := eq_true q122
                  go_wp2
                  repeat (go_quiet (fail); try go_wp2)
                  go_ret
                  exact ⟨by first | rfl | (simp; done) | (simp [*]; done), by repeat (first | exact Drawn0.refl _ | apply Drawn0.step)⟩
                · rw [if_neg c8] at H
                  have c8b0 : (!((((rd_T40 l0 x13_1).f0).toList) == (((rd_T40 l1 x13_1).f0).toList)) || (!(((rd_T40 l0 x13_1).f1) == ((rd_T40 l1 x13_1).f1)) || (!((((rd_T40 l0 x13_1).f2).toList) == (((rd_T40 l1 x13_1).f2).toList))))) = false := by simpa using c8
                  clear c8
                  have H' := Aside0.mk H
                  clear H
                  have p121 : 0 ≤ (x13_1 : Int) := of_decide_eq_true (by first | (with_reducible assumption) | assumption)
                  have q121 : x13_1 < (l0.length : Int) := of_decide_eq_true (by first | (with_reducible assumption) | assumption)
                  obtain ⟨ad121, e121, hx121_0, hx121_1, hx121_2⟩ := at_T40 HR0.out x13_1 p121 q121
                  cases e121
                  replace p121 := eq_true p121
                  replace q121 := eq_true q121
                  have p122 : 0 ≤ (x13_1 : Int) := of_decide_eq_true (by first | (with_reducible assumption) | assumption)
                  have q122 : x13_1 < (l1.length : Int) := of_decide_eq_true (by first | (with_reducible assumption) | assumption)
                  obtain ⟨ad122, e122, hx122_0, hx122_1, hx122_2⟩ := at_T40 HR1.out x13_1 p122 q122
                  cases e122
                  replace p122 := eq_true p122
                  replace q122 := eq_true q122
                  go_wp2
                  repeat (go_quiet (fail); try go_wp2)
                  go_roundg k1
                  case measure => have := HK1.out; omega
                  case rel => exact ⟨(wrap64 (x13_1 + 1)), (by first | rfl | (simp; done) | (simp [*]; done)), H', ⟨by have := HK1.out; omega⟩, by repeat (first | exact Drawn0.refl _ | apply Drawn0.step)⟩
              · rw [if_neg c7] at H
                exact absurd H (by simp)
            · rw [if_neg c6] at H
              exact absurd H (by simp)
          · rw [if_neg c5] at H
            exact absurd H (by simp)
        · rw [if_neg c4] at H
          have c4b0 : decide (x13_1 < (l0.length : Int)) = false := decide_eq_false c4
          clear c4
          obtain rfl := Option.some.inj H
          go_wp2
          repeat (go_quiet (fail); try go_wp2)
          go_ret
          exact ⟨by first | rfl | (simp; done) | (simp [*]; done), by repeat (first | exact Drawn0.refl _ | apply Drawn0.step)⟩
  · rw [if_neg c3] at H
    have c3b0 : ((l0.length : Int) == (l1.length : Int)) = false := beq_eq_false_iff_ne.mpr c3
    have c3b1 : ((l0.length : Int) != (l1.length : Int)) = true := bne_iff_ne.mpr c3
    have c3b2 : (l0.length == l1.length) = false := by first | simpa using c3 | (simp at c3 ⊢; omega)
    obtain rfl := Option.some.inj H
    go_enter Try.func35, Try.ntmps35
    go_wp2
    repeat (go_quiet (fail); try go_wp2)
    go_ret
    exact ⟨by first | rfl | (simp; done) | (simp [*]; done), by repeat (first | exact Drawn0.refl _ | apply Drawn0.step)⟩

end Go.Proofs.Ytlcanmndeempfaa.PMo
