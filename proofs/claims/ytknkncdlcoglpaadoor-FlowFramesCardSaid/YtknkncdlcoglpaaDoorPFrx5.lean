-- Written by wip/tools/myprint.py, a program of the prover's own, over the kit's print; the contracts named 'HAND' there are typed by hand.
import Derived.Test.YtknkncdlcoglpaaDoorPFrx0
import Derived.Test.YtknkncdlcoglpaaDoorPFrx1
import Derived.Test.YtknkncdlcoglpaaDoorPFrx3
import Derived.Test.YtknkncdlcoglpaaDoorPFrx4
namespace Go.Proofs.YtknkncdlcoglpaaDoor.PFr
open Go.RowKit Go.Proofs.YtknkncdlcoglpaaDoorW.PrintWords Go.Proofs.YtknkncdlcoglpaaDoorW.PrintLast Go.Proofs.YtknkncdlcoglpaaDoorW.PrintMore
attribute [local go_sem] max2_int min2_int max_two min_two max_three min_three max_four min_four   -- for this text's walks alone
set_option linter.unusedVariables false
set_option linter.unusedSimpArgs false

/-! ### flow_reader_read: function 30 -/
/-- what head tells: another order, or the base and how many -/
def headF (k : Nat) (l : List Int) : Option (Option (Int × Int)) := (vari_All.f k l).bind fun t => if t.2 = true ∧ t.1.length = 3 ∧ t.1.getD 0 0 = 1 ∧ t.1.getD 1 0 ≤ 4294967295 then (if 0 ≤ t.1.getD 1 0 then some (some (t.1.getD 1 0, t.1.getD 2 0)) else none) else some none
def head_T : Bool × List (List Nat × List Nat) := (true, [([], []), ([], []), ([], []), ([2], [2]), ([3], [3]), ([4], [4]), ([], []), ([6], [6]), ([7], [7]), ([0, 0, 2, 3, 4, 5, 8], [0]), ([9, 0, 2, 3, 4, 5, 8], [9]), ([10, 0, 2, 3, 4, 5, 8], [10]), ([11, 5, 0, 2, 3, 4, 5, 8], [5, 11]), ([1, 0, 1, 2, 3, 4, 5, 6, 7, 8, 9, 10, 11, 12], [1]), ([13, 0, 1, 2, 3, 4, 5, 6, 7, 8, 9, 10, 11, 12], [13]), ([14, 8, 12, 0, 1, 2, 3, 4, 5, 6, 7, 8, 9, 10, 11, 12], [8, 14])])
def head_B : List Nat := [0, 0, 0, 4, 12, 28, 0, 64, 192, 509, 1021, 2045, 4093, 8191, 16383, 32767]
theorem head_tab : rtab .any (opsOf Tryd.f47 4) = head_T := by kernel_rfl
theorem head_bits : waitsOk head_T.2 head_B = true := by kernel_rfl
theorem own_three {w : World} {t : TypeId} {base : Nat} {ok : Nat → Prop} {v : Value} {x0 x1 x2 : Int} (h : Kd.R (Kd.int .u64) t w base ok v [x0, x1, x2]) :
    ∃ ad co, v = .slice (some ad) 3 co ∧ w.cell? ad = some (.int .u64 x0) ∧ w.cell? ⟨ad.block, ad.off + 1, none⟩ = some (.int .u64 x1) ∧ w.cell? ⟨ad.block, ad.off + 2, none⟩ = some (.int .u64 x2) ∧ base ≤ ad.block := by
  obtain ⟨Ao, co, eo⟩ := Kd.R_slice h
  subst eo
  have hC := (Kd.R_reads' h).2.2
  obtain ⟨ad, ea, hx0⟩ := Kd.at_int hC 0 (by decide) (by simp)
  obtain ⟨ad1, ea1, hx1⟩ := Kd.at_int hC 1 (by decide) (by simp)
  obtain ⟨ad2, ea2, hx2⟩ := Kd.at_int hC 2 (by decide) (by simp)
  subst ea
  obtain rfl : ad = ad1 := by injection ea1
  obtain rfl : ad = ad2 := by injection ea2
  refine ⟨ad, co, rfl, ?_, ?_, ?_, ?_⟩
  · have := hx0; rw [show ((0 : Int)).toNat = 0 from rfl, Addr.add_zero'] at this; exact this
  · have := add_field ad 0 1 (by omega); rw [Addr.add_zero'] at this; rw [← this]; exact hx1
  · have := add_field ad 0 2 (by omega); rw [Addr.add_zero'] at this; rw [← this]; exact hx2
  · exact Kd.R_base h ad.block rfl
set_option maxHeartbeats 8000000 in
set_option maxRecDepth 100000 in
theorem head_any (k : Nat) (g : Nat) (A0 : Option Addr) (c0 : Nat) (l0 : List Int) (many base : Int) (vp : Value) (w : World) (q : Option (Int × Int)) (hr0 : Kd.C (Kd.int .u8) w A0 l0.length l0) (hc0 : l0.length ≤ c0) (hb : w.heap[g]? = some (.cells #[.int .u64 many, .int .u32 base, vp] 57 (0, 0))) (h : headF k l0 = some q) :
    Calls Tryd.prog 47 #[.pointer (some ⟨g, 0, none⟩), .slice A0 l0.length c0] w fun e w' =>
      (q = none ∧ e = .returned (.iface 59 (.agg #[.int .i64 4])) ∧ Below w.heap.size w w') ∨
      ∃ b m w1, q = some (b, m) ∧ e = .returned .nilIface ∧ Below w.heap.size w w1 ∧ w' = (w1.setCell ⟨g, 1, none⟩ (.int .u32 b)).setCell ⟨g, 0, none⟩ (.int .u64 m) := by
  have HR := Aside0.mk hr0
  have HC := Aside0.mk hc0
  have HG := Aside0.mk hb
  unfold headF at h
  obtain ⟨⟨l, t⟩, ha, h⟩ := Option.bind_eq_some_iff.mp h
  have HA := Aside0.mk ha
  clear hr0 hc0 hb ha
  dsimp only at h
  by_cases ct : t = true
  · subst ct
    by_cases cl : l.length = 3
    · obtain ⟨x0, x1, x2, rfl⟩ : ∃ x0 x1 x2, l = [x0, x1, x2] := by
        match l, cl with
        | [a, b, c], _ => exact ⟨a, b, c, rfl⟩
      have g0 : ([x0, x1, x2] : List Int).getD 0 0 = x0 := rfl
      have g1 : ([x0, x1, x2] : List Int).getD 1 0 = x1 := rfl
      have g2 : ([x0, x1, x2] : List Int).getD 2 0 = x2 := rfl
      rw [g0, g1, g2] at h
      by_cases c0 : x0 = 1
      · by_cases c1 : x1 ≤ 4294967295
        · rw [if_pos ⟨rfl, rfl, c0, c1⟩] at h
          by_cases c2 : 0 ≤ x1
          · rw [if_pos c2] at h
            obtain rfl := Option.some.inj h
            subst c0
            have e1 : decide ((4294967295 : Int) < x1) = false := decide_eq_false (by omega)
            have e2 : IntKind.u32.wrap x1 = x1 := by simp [IntKind.wrap, IntKind.bits, IntKind.signed]; omega
            have E2 := Aside0.mk e2
            clear h cl c1 c2 g0 g1 g2
            go_enter Tryd.func47, Tryd.ntmps47
            go_upto_region 4 with (go_at_call 61; with_reducible refine (vari_All.calls k A0 c0 l0 [1, x1, x2] true w HR.out HC.out HA.out).mono ?_; rintro e w1 ⟨v0, rfl, ho, hb⟩; obtain ⟨ad, co, rfl, hx0, hx1, hx2, hbase⟩ := own_three ho; have HG1 := Aside0.mk (blk_below HG.out hb); have HB := Aside0.mk hb; have HBA := Aside0.mk hbase; clear ho hb hbase)
            have HX1 := Aside0.mk hx1
            have HX2 := Aside0.mk hx2
            have HNE := Aside0.mk (show ad.block ≠ g by have h1 := HBA.out; have h2 := blk_lt HG.out; omega)
            have HG2 := Aside0.mk (blk_drew HG1.out)
            have HB2 := Aside0.mk (below_drew1 HB.out)
            clear hx0 hx1 hx2
            refine start_ (n := 16) (S := fun w' => w'.cell? ⟨ad.block, ad.off + 1, none⟩ = some (.int .u64 x1) ∧ w'.cell? ⟨ad.block, ad.off + 2, none⟩ = some (.int .u64 x2)) (ds := []) #[false, false, false, false, false, false, false, false, false, false, false, false, false, false, false, false] (by kernel_rfl) rfl rfl ⟨HX1.out, HX2.out⟩ (fun hHeld => ?_)
            refine with_tabW head_tab head_bits (fun HT_ HW_ => ?_)
            generalize w1.drew = w2 at HG2 HB2 hHeld ⊢
            refine pure_ (i := 0) (N := some 33) (v := ?_) (a' := ?_) #[true, false, false, false, false, false, false, false, false, false, false, false, false, false, false, false] rfl rfl (any_of HT_.out (by kernel_rfl)) (fun _ _ _ h => h) (Or.inl ⟨by rfl, ?_⟩) ?_ ?_
            rotate_left
            · intro w'
              go_simp
              with_reducible rfl
            rotate_left
            · simp only [Act.put, List.setIfInBounds_toArray, List.set_cons_zero, List.set_cons_succ, i64_w, i32_w]
              rfl
            refine pure_ (i := 1) (N := some 34) (v := ?_) (a' := ?_) #[true, true, false, false, false, false, false, false, false, false, false, false, false, false, false, false] rfl rfl (any_of HT_.out (by kernel_rfl)) (fun _ _ _ h => h) (Or.inl ⟨by rfl, ?_⟩) ?_ ?_
            rotate_left
            · intro w'
              go_simp
              with_reducible rfl
            rotate_left
            · simp only [Act.put, List.setIfInBounds_toArray, List.set_cons_zero, List.set_cons_succ, i64_w, i32_w]
              rfl
            refine pure_ (i := 2) (N := some 35) (v := ?_) (a' := ?_) #[true, true, true, false, false, false, false, false, false, false, false, false, false, false, false, false] rfl rfl (any_of HT_.out (by kernel_rfl)) (fun _ _ _ h => h) (Or.inl ⟨by rfl, ?_⟩) ?_ ?_
            rotate_left
            · intro w'
              go_simp
              with_reducible rfl
            rotate_left
            · simp only [Act.put, List.setIfInBounds_toArray, List.set_cons_zero, List.set_cons_succ, i64_w, i32_w]
              rfl
            refine pure_ (i := 3) (N := some 36) (v := ?_) (a' := ?_) #[true, true, true, true, false, false, false, false, false, false, false, false, false, false, false, false] rfl rfl (any_of HT_.out (by kernel_rfl)) (fun _ _ _ h => h) (Or.inl ⟨by rfl, ?_⟩) ?_ ?_
            rotate_left
            · intro w'
              go_simp
              with_reducible rfl
            rotate_left
            · simp only [Act.put, List.setIfInBounds_toArray, List.set_cons_zero, List.set_cons_succ, i64_w, i32_w]
              rfl
            refine pure_ (i := 6) (N := some 39) (v := ?_) (a' := ?_) #[true, true, true, true, false, false, true, false, false, false, false, false, false, false, false, false] rfl rfl (any_of HT_.out (by kernel_rfl)) (fun _ _ _ h => h) (Or.inl ⟨by rfl, ?_⟩) ?_ ?_
            rotate_left
            · intro w'
              go_simp
              with_reducible rfl
            rotate_left
            · simp only [Act.put, List.setIfInBounds_toArray, List.set_cons_zero, List.set_cons_succ, i64_w, i32_w]
              rfl
            refine pure_ (i := 7) (N := some 40) (v := ?_) (a' := ?_) #[true, true, true, true, false, false, true, true, false, false, false, false, false, false, false, false] rfl rfl (any_of HT_.out (by kernel_rfl)) (fun _ _ _ h => h) (Or.inl ⟨by rfl, ?_⟩) ?_ ?_
            rotate_left
            · intro w'
              go_simp
              with_reducible rfl
            rotate_left
            · simp only [Act.put, List.setIfInBounds_toArray, List.set_cons_zero, List.set_cons_succ, i64_w, i32_w]
              rfl
            refine take_ (i := 4) (N := some 37) (v := ?_) (a' := ?_) #[true, true, true, true, true, false, true, true, false, false, false, false, false, false, false, false] rfl rfl (take_ofW HT_.out HW_.out (by kernel_rfl)) (fun _ _ _ h => h) (Or.inl ⟨by rfl, ?_⟩) hHeld ?_ ?_
            rotate_left
            · rintro w' ⟨s0, s1⟩
              go_simp
              with_reducible rfl
            rotate_left
            · simp only [Act.put, List.setIfInBounds_toArray, List.set_cons_zero, List.set_cons_succ, i64_w, i32_w]
              rfl
            refine pure_ (i := 5) (N := some 38) (v := ?_) (a' := ?_) #[true, true, true, true, true, true, true, true, false, false, false, false, false, false, false, false] rfl rfl (any_of HT_.out (by kernel_rfl)) (fun _ _ _ h => h) (Or.inl ⟨by rfl, ?_⟩) ?_ ?_
            rotate_left
            · intro w'
              go_simp
              with_reducible rfl
            rotate_left
            · simp only [Act.put, List.setIfInBounds_toArray, List.set_cons_zero, List.set_cons_succ, i64_w, i32_w]
              rfl
            refine take_ (i := 8) (N := some 41) (v := ?_) (a' := ?_) #[true, true, true, true, true, true, true, true, true, false, false, false, false, false, false, false] rfl rfl (take_ofW HT_.out HW_.out (by kernel_rfl)) (fun _ _ _ h => h) (Or.inl ⟨by rfl, ?_⟩) hHeld ?_ ?_
            rotate_left
            · rintro w' ⟨s0, s1⟩
              go_simp
              with_reducible rfl
            rotate_left
            · simp only [Act.put, List.setIfInBounds_toArray, List.set_cons_zero, List.set_cons_succ, i64_w, i32_w]
              rfl
            refine pure_ (i := 9) (N := some 42) (v := ?_) (a' := ?_) #[true, true, true, true, true, true, true, true, true, true, false, false, false, false, false, false] rfl rfl (any_of HT_.out (by kernel_rfl)) (fun _ _ _ h => h) (Or.inl ⟨by rfl, ?_⟩) ?_ ?_
            rotate_left
            · intro w'
              go_simp
              with_reducible rfl
            rotate_left
            · simp only [Act.put, List.setIfInBounds_toArray, List.set_cons_zero, List.set_cons_succ, i64_w, i32_w]
              rfl
            refine pure_ (i := 10) (N := some 43) (v := ?_) (a' := ?_) #[true, true, true, true, true, true, true, true, true, true, true, false, false, false, false, false] rfl rfl (any_of HT_.out (by kernel_rfl)) (fun _ _ _ h => h) (Or.inl ⟨by rfl, ?_⟩) ?_ ?_
            rotate_left
            · intro w'
              go_simp
              with_reducible rfl
            rotate_left
            · simp only [Act.put, List.setIfInBounds_toArray, List.set_cons_zero, List.set_cons_succ, i64_w, i32_w]
              rfl
            refine pure_ (i := 11) (N := some 44) (v := ?_) (a' := ?_) #[true, true, true, true, true, true, true, true, true, true, true, true, false, false, false, false] rfl rfl (any_of HT_.out (by kernel_rfl)) (fun _ _ _ h => h) (Or.inl ⟨by rfl, ?_⟩) ?_ ?_
            rotate_left
            · intro w'
              go_simp
              with_reducible rfl
            rotate_left
            · simp only [Act.put, List.setIfInBounds_toArray, List.set_cons_zero, List.set_cons_succ, i64_w, i32_w]
              rfl
            refine one_ (i := 12) (N := none) #[true, true, true, true, true, true, true, true, true, true, true, true, true, false, false, false] rfl rfl (one_of HT_.out (by kernel_rfl)) (by decide) (fun K hK => ?_)
            have hs0 : w2.cell? ⟨g, 1, none⟩ = some (.int .u32 base) := (blk_cell HG2.out 1).trans rfl
            have hf0 := blk_frozen HG2.out 1
            have HH1 := Aside0.mk hHeld.1
            have HH2 := Aside0.mk hHeld.2
            refine skip_ (w1 := ?_) (by rfl) rfl ?_ ?_
            rotate_left
            · go_simp
              rfl
            refine hK.out _ _ ⟨(cell_far (p := ⟨g, 1, none⟩) (show (⟨ad.block, ad.off + 1, none⟩ : Addr).block ≠ (⟨g, 1, none⟩ : Addr).block from HNE.out) _).trans HH1.out, (cell_far (p := ⟨g, 1, none⟩) (show (⟨ad.block, ad.off + 2, none⟩ : Addr).block ≠ (⟨g, 1, none⟩ : Addr).block from HNE.out) _).trans HH2.out⟩ (fun hHeld => ?_)
            clear hK K hs0 hf0
            refine pure_ (i := 13) (N := some 45) (v := ?_) (a' := ?_) #[true, true, true, true, true, true, true, true, true, true, true, true, true, true, false, false] rfl rfl (any_of HT_.out (by kernel_rfl)) (fun _ _ _ h => h) (Or.inl ⟨by rfl, ?_⟩) ?_ ?_
            rotate_left
            · intro w'
              go_simp
              with_reducible rfl
            rotate_left
            · simp only [Act.put, List.setIfInBounds_toArray, List.set_cons_zero, List.set_cons_succ, i64_w, i32_w]
              rfl
            refine pure_ (i := 14) (N := some 46) (v := ?_) (a' := ?_) #[true, true, true, true, true, true, true, true, true, true, true, true, true, true, true, false] rfl rfl (any_of HT_.out (by kernel_rfl)) (fun _ _ _ h => h) (Or.inl ⟨by rfl, ?_⟩) ?_ ?_
            rotate_left
            · intro w'
              go_simp
              with_reducible rfl
            rotate_left
            · simp only [Act.put, List.setIfInBounds_toArray, List.set_cons_zero, List.set_cons_succ, i64_w, i32_w]
              rfl
            refine one_ (i := 15) (N := none) #[true, true, true, true, true, true, true, true, true, true, true, true, true, true, true, true] rfl rfl (one_of HT_.out (by kernel_rfl)) (by decide) (fun K hK => ?_)
            have HG3 : (w2.setCell ⟨g, 1, none⟩ (.int .u32 x1)).heap[g]? = some (.cells #[.int .u64 many, .int .u32 x1, vp] 57 (0, 0)) := blk_put (cs := #[.int .u64 many, .int .u32 base, vp]) HG2.out 1 _ rfl
            have hs0 : (w2.setCell ⟨g, 1, none⟩ (.int .u32 x1)).cell? ⟨g, 0, none⟩ = some (.int .u64 many) := (blk_cell HG3 0).trans rfl
            have hf0 := blk_frozen HG3 0
            refine skip_ (w1 := ?_) (by rfl) rfl ?_ ?_
            rotate_left
            · go_simp
              rfl
            refine hK.out _ _ ⟨(cell_far (p := ⟨g, 0, none⟩) (show (⟨ad.block, ad.off + 1, none⟩ : Addr).block ≠ (⟨g, 0, none⟩ : Addr).block from HNE.out) _).trans ((cell_far (p := ⟨g, 1, none⟩) (show (⟨ad.block, ad.off + 1, none⟩ : Addr).block ≠ (⟨g, 1, none⟩ : Addr).block from HNE.out) _).trans HH1.out), (cell_far (p := ⟨g, 0, none⟩) (show (⟨ad.block, ad.off + 2, none⟩ : Addr).block ≠ (⟨g, 0, none⟩ : Addr).block from HNE.out) _).trans ((cell_far (p := ⟨g, 1, none⟩) (show (⟨ad.block, ad.off + 2, none⟩ : Addr).block ≠ (⟨g, 1, none⟩ : Addr).block from HNE.out) _).trans HH2.out)⟩ (fun hHeld => ?_)
            clear hK K
            refine done_ (done_of HT_.out (by kernel_rfl)) ?_
            go_wp2
            go_ret
            exact .inr ⟨x1, x2, w2, rfl, rfl, HB2.out, rfl⟩
          · rw [if_neg c2] at h
            exact absurd h (by simp)
        · rw [if_neg (fun hh => c1 hh.2.2.2)] at h
          obtain rfl := Option.some.inj h
          subst c0
          have e1 : decide ((4294967295 : Int) < x1) = true := decide_eq_true (by omega)
          clear h cl c1 g0 g1 g2
          go_enter Tryd.func47, Tryd.ntmps47
          go_wp2_with (go_at_call 61; with_reducible refine (vari_All.calls k A0 c0 l0 [1, x1, x2] true w HR.out HC.out HA.out).mono ?_; rintro e w1 ⟨v0, rfl, ho, hb⟩; obtain ⟨ad, co, rfl, hx0, hx1, hx2, hbase⟩ := own_three ho; have HG1 := Aside0.mk (blk_below HG.out hb); have HB := Aside0.mk hb; have HBA := Aside0.mk hbase; clear ho hb hbase)
          go_ret
          exact .inl ⟨by first | rfl | trivial, rfl, HB.out⟩
      · rw [if_neg (fun hh => c0 hh.2.2.1)] at h
        obtain rfl := Option.some.inj h
        have e1 : (x0 != 1) = true := bne_iff_ne.mpr c0
        clear h cl c0 g0 g1 g2
        go_enter Tryd.func47, Tryd.ntmps47
        go_wp2_with (go_at_call 61; with_reducible refine (vari_All.calls k A0 c0 l0 [x0, x1, x2] true w HR.out HC.out HA.out).mono ?_; rintro e w1 ⟨v0, rfl, ho, hb⟩; obtain ⟨ad, co, rfl, hx0, hx1, hx2, hbase⟩ := own_three ho; have HG1 := Aside0.mk (blk_below HG.out hb); have HB := Aside0.mk hb; have HBA := Aside0.mk hbase; clear ho hb hbase)
        go_ret
        exact .inl ⟨by first | rfl | trivial, rfl, HB.out⟩
    · rw [if_neg (fun hh => cl hh.2.1)] at h
      obtain rfl := Option.some.inj h
      have e1 : ((l.length : Int) != 3) = true := bne_iff_ne.mpr (by omega)
      clear h cl
      go_enter Tryd.func47, Tryd.ntmps47
      go_wp2_with (go_at_call 61; with_reducible refine (vari_All.calls k A0 c0 l0 l true w HR.out HC.out HA.out).mono ?_; rintro e w1 ⟨v0, rfl, ho, hb⟩; obtain ⟨Ao, co, eo⟩ := Kd.R_slice ho; subst eo; have HB := Aside0.mk hb; clear ho hb)
      go_ret
      exact .inl ⟨by first | rfl | trivial, rfl, HB.out⟩
  · rw [if_neg (fun hh => ct hh.1)] at h
    obtain rfl := Option.some.inj h
    replace ct := Bool.eq_false_iff.mpr ct
    subst ct
    clear h
    go_enter Tryd.func47, Tryd.ntmps47
    go_wp2_with (go_at_call 61; with_reducible refine (vari_All.calls k A0 c0 l0 l false w HR.out HC.out HA.out).mono ?_; rintro e w1 ⟨v0, rfl, ho, hb⟩; obtain ⟨Ao, co, eo⟩ := Kd.R_slice ho; subst eo; have HB := Aside0.mk hb; clear ho hb)
    go_ret
    exact .inl ⟨by first | rfl | trivial, rfl, HB.out⟩
/-- what part tells: another order, or the part -/
def partF (k : Nat) (l : List Int) (n : Nat) : Option (Option (List Int)) := (vari_Get.f k l).bind fun t => if t.2 = 0 ∨ t.1 ≠ (n : Int) then some none else (if (0 ≤ t.2 ∧ t.2 ≤ (l.length : Int)) ∧ l.length < 140737488355328 then some (some (l.drop t.2.toNat)) else none)
def part2_T : Bool × List (List Nat × List Nat) := (true, [([], []), ([], []), ([1], [1]), ([2], [2]), ([3], [3]), ([4], [4]), ([], []), ([], []), ([6, 7], [6, 7]), ([8], [8]), ([9], [9]), ([5, 10, 9], [5, 10]), ([0, 0, 1, 2, 3, 4, 5, 6, 7, 8, 9, 10, 11], [0]), ([12, 0, 1, 2, 3, 4, 5, 6, 7, 8, 9, 10, 11], [12]), ([13, 0, 1, 2, 3, 4, 5, 6, 7, 8, 9, 10, 11], [13]), ([14, 11, 11, 0, 1, 2, 3, 4, 5, 6, 7, 8, 9, 10, 11], [11, 14])])
def part2_B : List Nat := [0, 0, 2, 6, 14, 30, 0, 0, 192, 448, 960, 2046, 4095, 8191, 16383, 32767]
theorem part2_tab : rtab .any (opsOf Tryd.f48 4) = part2_T := by kernel_rfl
theorem part2_bits : waitsOk part2_T.2 part2_B = true := by kernel_rfl
theorem part_info2 : (Tryd.prog.info? 26).map (fun i => (i.zero, i.size, i.bytes)) = some (some (.slice none 0 0), 1, 24) := by kernel_rfl
theorem part_info3 : (Tryd.prog.info? 5).map (fun i => (i.zero, i.size, i.bytes)) = some (some (.int .u8 0), 1, 1) := by kernel_rfl
set_option maxHeartbeats 8000000 in
set_option maxRecDepth 100000 in
theorem part_read (k : Nat) (g F : Nat) (A0 : Option Addr) (c0 : Nat) (l0 : List Int) (many base : Int) (vp : Value) (parts : List (List Int)) (w : World) (q : Option (List Int)) (hr0 : Kd.C (Kd.int .u8) w A0 l0.length l0) (hc0 : l0.length ≤ c0) (hb : w.heap[g]? = some (.cells #[.int .u64 many, .int .u32 base, vp] 57 (0, 0)))
    (hF : F ≤ w.heap.size) (hgF : g < F) (hS : Kd.S (Kd.slice 5 (Kd.int .u8)) 26 w F (fun _ => True) vp parts) (hpl : parts.length < 1000000000000) (h : partF k l0 parts.length = some q) :
    Calls Tryd.prog 48 #[.pointer (some ⟨g, 0, none⟩), .slice A0 l0.length c0] w fun e w' =>
      (q = none ∧ e = .returned (.iface 59 (.agg #[.int .i64 4])) ∧ Below w.heap.size w w') ∨
      ∃ p vp' w1, q = some p ∧ e = .returned .nilIface ∧ Below F w w1 ∧ w' = w1.setCell ⟨g, 2, none⟩ vp' ∧ Kd.S (Kd.slice 5 (Kd.int .u8)) 26 w1 F (fun _ => True) vp' (parts ++ [p]) ∧ w1.heap[g]? = some (.cells #[.int .u64 many, .int .u32 base, vp] 57 (0, 0)) := by
  have HR := Aside0.mk hr0
  have HC := Aside0.mk hc0
  have HG := Aside0.mk hb
  have HF := Aside0.mk hF
  have HGF := Aside0.mk hgF
  have HPL := Aside0.mk hpl
  obtain ⟨Ap, cp, ep⟩ := Kd.S_slice hS
  subst ep
  have HS := Aside0.mk hS
  unfold partF at h
  obtain ⟨⟨n, at_⟩, ha, h⟩ := Option.bind_eq_some_iff.mp h
  have HA := Aside0.mk ha
  have hs2 : w.cell? ⟨g, 2, none⟩ = some (.slice Ap parts.length cp) := (blk_cell hb 2).trans rfl
  clear hr0 hc0 hb ha hF hgF hS
  dsimp only at h
  have eu : IntKind.u64.wrap (parts.length : Int) = (parts.length : Int) := by simp [IntKind.wrap, IntKind.bits, IntKind.signed]; omega
  by_cases c1 : at_ = 0
  · rw [if_pos (.inl c1)] at h
    obtain rfl := Option.some.inj h
    have e1 : (at_ == 0) = true := beq_iff_eq.mpr c1
    clear h c1 hpl
    go_enter Tryd.func48, Tryd.ntmps48
    go_wp2_with (go_at_call 62; with_reducible refine (vari_Get.calls k A0 c0 l0 n at_ w HR.out HC.out HA.out).mono ?_; rintro e w1 ⟨rfl, ⟨m1, rfl⟩⟩)
    go_ret
    exact .inl ⟨by first | rfl | trivial, rfl, pw_below_drewN (Below.refl _ _) _⟩
  have e1 : (at_ == 0) = false := beq_eq_false_iff_ne.mpr c1
  by_cases c2 : n = (parts.length : Int)
  · by_cases c3 : (0 ≤ at_ ∧ at_ ≤ (l0.length : Int)) ∧ l0.length < 140737488355328
    · rw [if_neg (fun hh => hh.elim c1 (fun h2 => h2 c2)), if_pos c3] at h
      obtain rfl := Option.some.inj h
      subst c2
      have e2 : ((parts.length : Int) != (parts.length : Int)) = false := bne_self_eq_false _
      obtain ⟨i0, hi0, _, hsz, _⟩ := info_parts part_info3
      obtain ⟨A8, hcut8, hA8, hC8⟩ := print_drop_of (P := Tryd.prog) (Value.int .u8) 0 26 5 .i64 Tryd.underlying26 hi0 hsz A0 c0 l0 at_ c3.1.1 c3.1.2 HC.out
      have HR8 := Aside0.mk (Kd.C_of_reads (h1 := fun _ => rfl) (hA8 _ (Kd.reads_of_C HR.out)))
      have HC8 := Aside0.mk hC8
      have hf : slices_Clone_byte_byte.f (l0.drop at_.toNat) = some (l0.drop at_.toNat) := by
        unfold slices_Clone_byte_byte.f
        rw [if_pos (by rw [List.length_drop]; omega)]
      have HFF := Aside0.mk hf
      have P3 : ∀ W, Kd.C (Kd.int .u8) W A8 (l0.drop at_.toNat).length (l0.drop at_.toNat) → Calls Tryd.prog 54 #[.slice A8 (l0.length - at_.toNat) (c0 - at_.toNat)] W fun e w' => ∃ v0_ : Value, e = .returned (v0_) ∧ Aside0 (Kd.R (Kd.int .u8) 5 w' W.heap.size (fun _ => True) v0_ (l0.drop at_.toNat)) ∧ Aside0 (Below W.heap.size W w') := by
        intro W hC
        have := slices_Clone_byte_byte.calls A8 (c0 - at_.toNat) (l0.drop at_.toNat) (l0.drop at_.toNat) W hC HC8.out HFF.out
        rw [List.length_drop] at this
        refine this.mono ?_
        rintro e w' ⟨v, rfl, h1, h2⟩
        exact ⟨v, rfl, ⟨h1⟩, ⟨h2⟩⟩
      have d1 := eq_true c3.1.1
      have d2 := eq_true c3.1.2
      have HD := Aside0.mk c3.1
      rw [List.length_drop] at hcut8
      clear h c1 hA8 hC8 hi0 hsz c3 hpl hf
      go_enter Tryd.func48, Tryd.ntmps48
      go_upto_region 4 with (go_at_call 62; with_reducible refine (vari_Get.calls k A0 c0 l0 (parts.length : Int) at_ w HR.out HC.out HA.out).mono ?_; rintro e w1 ⟨rfl, ⟨m1, rfl⟩⟩)
      have HG1 := Aside0.mk (blk_drew (blk_drewN HG.out m1))
      have HS1 := Aside0.mk (Kd.S_drew (Kd.S_drewN HS.out m1))
      have HR1 : Aside0 (Kd.C (Kd.int .u8) (w.drewN m1).drew A8 (l0.drop at_.toNat).length (l0.drop at_.toNat)) := ⟨Kd.C_drew (Kd.C_drewN HR8.out m1)⟩
      have HB1 := Aside0.mk (below_drew1 (pw_below_drewN (Below.refl F w) m1))
      have HX1 := Aside0.mk (show (w.drewN m1).drew.cell? ⟨g, 2, none⟩ = some (.slice Ap parts.length cp) from hs2)
      have HF1 := Aside0.mk (show F ≤ (w.drewN m1).drew.heap.size from HF.out)
      clear hs2
      refine start_ (n := 16) (S := fun w' => w'.cell? ⟨g, 2, none⟩ = some (.slice Ap parts.length cp)) (ds := [15]) #[false, false, false, false, false, false, false, false, false, false, false, false, false, false, false, false] (by kernel_rfl) rfl rfl HX1.out (fun hHeld => ?_)
      refine with_tabW part2_tab part2_bits (fun HT_ HW_ => ?_)
      generalize (w.drewN m1).drew = w2 at HG1 HS1 HR1 HB1 HF1 hHeld ⊢
      refine pure_ (i := 0) (N := some 27) (v := ?_) (a' := ?_) #[true, false, false, false, false, false, false, false, false, false, false, false, false, false, false, false] rfl rfl (any_of HT_.out (by kernel_rfl)) (fun _ _ _ h => h) (Or.inl ⟨by rfl, ?_⟩) ?_ ?_
      rotate_left
      · intro w'
        go_simp
        with_reducible rfl
      rotate_left
      · simp only [Act.put, List.setIfInBounds_toArray, List.set_cons_zero, List.set_cons_succ, i64_w, i32_w]
        rfl
      refine pure_ (i := 1) (N := some 28) (v := ?_) (a' := ?_) #[true, true, false, false, false, false, false, false, false, false, false, false, false, false, false, false] rfl rfl (any_of HT_.out (by kernel_rfl)) (fun _ _ _ h => h) (Or.inl ⟨by rfl, ?_⟩) ?_ ?_
      rotate_left
      · intro w'
        go_simp
        with_reducible rfl
      rotate_left
      · simp only [Act.put, List.setIfInBounds_toArray, List.set_cons_zero, List.set_cons_succ, i64_w, i32_w]
        rfl
      refine pure_ (i := 2) (N := some 29) (v := ?_) (a' := ?_) #[true, true, true, false, false, false, false, false, false, false, false, false, false, false, false, false] rfl rfl (any_of HT_.out (by kernel_rfl)) (fun _ _ _ h => h) (Or.inl ⟨by rfl, ?_⟩) ?_ ?_
      rotate_left
      · intro w'
        go_simp
        with_reducible rfl
      rotate_left
      · simp only [Act.put, List.setIfInBounds_toArray, List.set_cons_zero, List.set_cons_succ, i64_w, i32_w]
        rfl
      refine pure_ (i := 3) (N := some 30) (v := ?_) (a' := ?_) #[true, true, true, true, false, false, false, false, false, false, false, false, false, false, false, false] rfl rfl (any_of HT_.out (by kernel_rfl)) (fun _ _ _ h => h) (Or.inl ⟨by rfl, ?_⟩) ?_ ?_
      rotate_left
      · intro w'
        go_simp
        with_reducible rfl
      rotate_left
      · simp only [Act.put, List.setIfInBounds_toArray, List.set_cons_zero, List.set_cons_succ, i64_w, i32_w]
        rfl
      refine pure_ (i := 4) (N := some 31) (v := ?_) (a' := ?_) #[true, true, true, true, true, false, false, false, false, false, false, false, false, false, false, false] rfl rfl (any_of HT_.out (by kernel_rfl)) (fun _ _ _ h => h) (Or.inl ⟨by rfl, ?_⟩) ?_ ?_
      rotate_left
      · intro w'
        go_simp
        with_reducible rfl
      rotate_left
      · simp only [Act.put, List.setIfInBounds_toArray, List.set_cons_zero, List.set_cons_succ, i64_w, i32_w]
        rfl
      refine pure_ (i := 6) (N := some 33) (v := ?_) (a' := ?_) #[true, true, true, true, true, false, true, false, false, false, false, false, false, false, false, false] rfl rfl (any_of HT_.out (by kernel_rfl)) (fun _ _ _ h => h) (Or.inl ⟨by rfl, ?_⟩) ?_ ?_
      rotate_left
      · intro w'
        go_simp
        with_reducible rfl
      rotate_left
      · simp only [Act.put, List.setIfInBounds_toArray, List.set_cons_zero, List.set_cons_succ, i64_w, i32_w]
        rfl
      refine pure_ (i := 7) (N := some 34) (v := ?_) (a' := ?_) #[true, true, true, true, true, false, true, true, false, false, false, false, false, false, false, false] rfl rfl (any_of HT_.out (by kernel_rfl)) (fun _ _ _ h => h) (Or.inl ⟨by rfl, ?_⟩) ?_ ?_
      rotate_left
      · intro w'
        go_simp
        with_reducible rfl
      rotate_left
      · simp only [Act.put, List.setIfInBounds_toArray, List.set_cons_zero, List.set_cons_succ, i64_w, i32_w]
        rfl
      refine pure_ (i := 8) (N := some 35) (v := ?_) (a' := ?_) #[true, true, true, true, true, false, true, true, true, false, false, false, false, false, false, false] rfl rfl (any_of HT_.out (by kernel_rfl)) (fun _ _ _ h => h) (Or.inl ⟨by rfl, ?_⟩) ?_ ?_
      rotate_left
      · intro w'
        go_simp
        with_reducible rfl
      rotate_left
      · simp only [Act.put, List.setIfInBounds_toArray, List.set_cons_zero, List.set_cons_succ, i64_w, i32_w]
        rfl
      refine take_ (i := 5) (N := some 32) (v := ?_) (a' := ?_) #[true, true, true, true, true, true, true, true, true, false, false, false, false, false, false, false] rfl rfl (take_ofW HT_.out HW_.out (by kernel_rfl)) (fun _ _ _ h => h) (Or.inl ⟨by rfl, ?_⟩) hHeld ?_ ?_
      rotate_left
      · rintro w' s0
        go_simp
        with_reducible rfl
      rotate_left
      · simp only [Act.put, List.setIfInBounds_toArray, List.set_cons_zero, List.set_cons_succ, i64_w, i32_w]
        rfl
      refine one_ (i := 9) (N := some 36) #[true, true, true, true, true, true, true, true, true, true, false, false, false, false, false, false] rfl rfl (one_of HT_.out (by kernel_rfl)) (by decide) (fun K hK => ?_)
      refine goes_ Tryd.func54 (by kernel_rfl) rfl #[.slice A8 (l0.length - at_.toNat) (c0 - at_.toNat)] (by rfl) rfl rfl (by simp only [List.map_toArray, List.map_cons, List.map_nil]; rfl) ?_
      with_reducible refine (P3 w2 HR1.out).mono ?_
      rintro e w3 ⟨v0, rfl, HO, hb3⟩
      refine ⟨_, rfl, ?_⟩
      have HG3 := Aside0.mk (blk_below HG1.out hb3.out)
      have HS3 := Aside0.mk (Kd.S_elder' HS1.out (Kd.R_base HO.out) hb3.out)
      have HB3 := Aside0.mk (below_then HB1.out HF1.out hb3.out)
      have HO3 := Aside0.mk (Kd.R_lower HO.out HF1.out)
      have HF3 := Aside0.mk (Nat.le_trans HF1.out hb3.out.size)
      have HX3 := Aside0.mk ((hb3.out.cell (World.block_lt_of_cell? _ _ hHeld)).trans hHeld)
      refine hK.out _ _ HX3.out (fun hHeld => ?_)
      clear hK K HO hb3 HFF HR1 HB1 HS1 HG1
      obtain ⟨Ao, co, eo⟩ := Kd.R_slice HO3.out
      subst eo
      refine norm_ (a' := ?_) ?_ ?_
      rotate_left
      · show Act.put _ (some 36) _ = _
        simp only [Act.put, List.setIfInBounds_toArray, List.set_cons_zero, List.set_cons_succ, i64_w, i32_w]
        rfl
      refine one_ (i := 10) (N := some 37) #[true, true, true, true, true, true, true, true, true, true, true, false, false, false, false, false] rfl rfl (one_of HT_.out (by kernel_rfl)) (by decide) (fun K hK => ?_)
      refine value_ (w1 := w3.alloc (.cells #[.slice Ao (l0.drop at_.toNat).length co] 26)) (v := .slice (some ⟨w3.heap.size, 0, none⟩) 1 1) (by rfl) rfl ?_ ?_
      · go_simp
      refine hK.out _ _ ((World.cell?_alloc_lt _ _ _ (World.block_lt_of_cell? _ _ hHeld)).trans hHeld) (fun hHeld => ?_)
      clear hK K
      refine norm_ (a' := ?_) ?_ ?_
      rotate_left
      · show Act.put _ (some 37) _ = _
        simp only [Act.put, List.setIfInBounds_toArray, List.set_cons_zero, List.set_cons_succ, i64_w, i32_w]
        rfl
      refine one_ (i := 11) (N := some 38) #[true, true, true, true, true, true, true, true, true, true, true, true, false, false, false, false] rfl rfl (one_of HT_.out (by kernel_rfl)) (by decide) (fun K hK => ?_)
      refine Kd.S_append_step (Kd.slice 5 (Kd.int .u8)) (w0 := w) F (by rfl) (.tmp 32) (.tmp 37) 23 26 (.slice none 0 0) 24 rfl Tryd.underlying23 part_info2 rfl (by decide) (by decide) (.slice Ap parts.length cp) parts (l0.drop at_.toNat) [.slice Ao (l0.drop at_.toNat).length co] (fun _ => True) (fun k_ => some k_ = (.slice Ao (l0.drop at_.toNat).length co : Value).ownBlock) rfl rfl ?aP ?aK (fun _ _ => trivial) ?aO HB3.out HF3.out ?aL ?_
      · exact ⟨_, rfl, Kd.R_mono (Kd.R_tight rfl HO3.out) (fun _ h_ => h_)⟩
      · intro k_ hk_
        exact ⟨trivial, ((Kd.R_apart' HO3.out (Kd.S_typed HS3.out) (by decide)).1 k_ hk_.symm).2⟩
      · exact Kd.S_mono HS3.out (fun k_ hk_ => ⟨trivial, hk_.2⟩)
      · have := HPL.out
        omega
      intro v1 w4 ho hb4 hg4 hat
      obtain ⟨Av, cv, ev⟩ := Kd.S_slice ho
      subst ev
      have HG4 := Aside0.mk (blk_grown (g := g) HG3.out hg4 (Kd.S_ne HS3.out HG3.out (by decide)))
      have HX4 : Aside0 (w4.cell? ⟨g, 2, none⟩ = some (.slice Ap parts.length cp)) := ⟨(blk_cell HG4.out 2).trans rfl⟩
      have HO4 := Aside0.mk ho
      have HB4 := Aside0.mk hb4
      refine hK.out _ _ HX4.out (fun hHeld => ?_)
      clear hK K ho hb4 hg4
      refine norm_ (a' := ?_) ?_ ?_
      rotate_left
      · show Act.put _ (some 38) _ = _
        simp only [Act.put, List.setIfInBounds_toArray, List.set_cons_zero, List.set_cons_succ, i64_w, i32_w]
        rfl
      refine pure_ (i := 12) (N := some 39) (v := ?_) (a' := ?_) #[true, true, true, true, true, true, true, true, true, true, true, true, true, false, false, false] rfl rfl (any_of HT_.out (by kernel_rfl)) (fun _ _ _ h => h) (Or.inl ⟨by rfl, ?_⟩) ?_ ?_
      rotate_left
      · intro w'
        go_simp
        with_reducible rfl
      rotate_left
      · simp only [Act.put, List.setIfInBounds_toArray, List.set_cons_zero, List.set_cons_succ, i64_w, i32_w]
        rfl
      refine pure_ (i := 13) (N := some 40) (v := ?_) (a' := ?_) #[true, true, true, true, true, true, true, true, true, true, true, true, true, true, false, false] rfl rfl (any_of HT_.out (by kernel_rfl)) (fun _ _ _ h => h) (Or.inl ⟨by rfl, ?_⟩) ?_ ?_
      rotate_left
      · intro w'
        go_simp
        with_reducible rfl
      rotate_left
      · simp only [Act.put, List.setIfInBounds_toArray, List.set_cons_zero, List.set_cons_succ, i64_w, i32_w]
        rfl
      refine pure_ (i := 14) (N := some 41) (v := ?_) (a' := ?_) #[true, true, true, true, true, true, true, true, true, true, true, true, true, true, true, false] rfl rfl (any_of HT_.out (by kernel_rfl)) (fun _ _ _ h => h) (Or.inl ⟨by rfl, ?_⟩) ?_ ?_
      rotate_left
      · intro w'
        go_simp
        with_reducible rfl
      rotate_left
      · simp only [Act.put, List.setIfInBounds_toArray, List.set_cons_zero, List.set_cons_succ, i64_w, i32_w]
        rfl
      refine last_ (i := 15) (N := none) #[true, true, true, true, true, true, true, true, true, true, true, true, true, true, true, true] rfl rfl (one_of HT_.out (by kernel_rfl)) (by decide) (fun K hK => ?_)
      have hfz2 : w4.frozen? ⟨g, 2, none⟩ = false := blk_frozen HG4.out 2
      refine skip_ (w1 := w4.setCell ⟨g, 2, none⟩ (.slice Av (parts ++ [l0.drop at_.toNat]).length cv)) (by rfl) rfl ?_ ?_
      · go_simp
      clear hfz2
      refine hK.out _ _ ?_
      clear hK K
      refine done_ (done_of HT_.out (by kernel_rfl)) ?_
      clear HX4 hHeld
      go_wp2
      go_ret
      refine .inr ⟨_, _, w4, rfl, ?_, HB4.out, ?_, HO4.out, HG4.out⟩
      · first | rfl | trivial
      · rfl
    · rw [if_neg (fun hh => hh.elim c1 (fun h2 => h2 c2)), if_neg c3] at h
      exact absurd h (by simp)
  · rw [if_pos (.inr c2)] at h
    obtain rfl := Option.some.inj h
    have e2 : (n != (parts.length : Int)) = true := bne_iff_ne.mpr c2
    clear h c1 c2 hpl
    go_enter Tryd.func48, Tryd.ntmps48
    go_wp2_with (go_at_call 62; with_reducible refine (vari_Get.calls k A0 c0 l0 n at_ w HR.out HC.out HA.out).mono ?_; rintro e w1 ⟨rfl, ⟨m1, rfl⟩⟩)
    go_ret
    exact .inl ⟨by first | rfl | trivial, rfl, pw_below_drewN (Below.refl _ _) _⟩
/-- what tail tells: whether all is well -/
def tailF (k : Nat) (l : List Int) (many : Int) (n : Nat) : Option Bool := (vari_Get.f k l).bind fun t => some (decide (t.2 ≠ 0 ∧ t.2 = (l.length : Int) ∧ t.1 = many ∧ t.1 = (n : Int)))
set_option maxHeartbeats 8000000 in
set_option maxRecDepth 100000 in
theorem tail_read (k : Nat) (g : Nat) (A0 : Option Addr) (c0 : Nat) (l0 : List Int) (many base : Int) (Ap : Option Addr) (np cp : Nat) (w : World) (q : Bool) (hr0 : Kd.C (Kd.int .u8) w A0 l0.length l0) (hc0 : l0.length ≤ c0) (hb : w.heap[g]? = some (.cells #[.int .u64 many, .int .u32 base, .slice Ap np cp] 57 (0, 0)))
    (hpl : np < 1000000000000) (h : tailF k l0 many np = some q) :
    Calls Tryd.prog 49 #[.pointer (some ⟨g, 0, none⟩), .slice A0 l0.length c0] w fun e w' =>
      (e = .returned (if q then .nilIface else .iface 59 (.agg #[.int .i64 4]))) ∧ ∃ m, w' = w.drewN m := by
  have HR := Aside0.mk hr0
  have HC := Aside0.mk hc0
  have HG := Aside0.mk hb
  unfold tailF at h
  obtain ⟨⟨n, at_⟩, ha, h⟩ := Option.bind_eq_some_iff.mp h
  have HA := Aside0.mk ha
  have hs0 : w.cell? ⟨g, 0, none⟩ = some (.int .u64 many) := (blk_cell hb 0).trans rfl
  have hs2 : w.cell? ⟨g, 2, none⟩ = some (.slice Ap np cp) := (blk_cell hb 2).trans rfl
  clear hr0 hc0 hb ha
  dsimp only at h
  obtain rfl := Option.some.inj h
  have eu : IntKind.u64.wrap (np : Int) = (np : Int) := by simp [IntKind.wrap, IntKind.bits, IntKind.signed]; omega
  clear h hpl
  by_cases c1 : at_ = 0
  · have e1 : (at_ == 0) = true := beq_iff_eq.mpr c1
    rw [decide_eq_false (fun hh => hh.1 c1)]
    clear c1
    go_enter Tryd.func49, Tryd.ntmps49
    go_wp2_with (go_at_call 62; with_reducible refine (vari_Get.calls k A0 c0 l0 n at_ w HR.out HC.out HA.out).mono ?_; rintro e w1 ⟨rfl, ⟨m1, rfl⟩⟩)
    go_ret
    exact ⟨by first | rfl | trivial, ⟨_, rfl⟩⟩
  have e1 : (at_ == 0) = false := beq_eq_false_iff_ne.mpr c1
  by_cases c2 : at_ = (l0.length : Int)
  · have e2 : (at_ != (l0.length : Int)) = false := by rw [c2]; exact bne_self_eq_false _
    by_cases c3 : n = many
    · have e3 : (n != many) = false := by rw [c3]; exact bne_self_eq_false _
      by_cases c4 : n = (np : Int)
      · have e4 : (n != (np : Int)) = false := by rw [c4]; exact bne_self_eq_false _
        rw [decide_eq_true ⟨c1, c2, c3, c4⟩]
        clear c1 c2 c3 c4
        go_enter Tryd.func49, Tryd.ntmps49
        go_wp2_with (go_at_call 62; with_reducible refine (vari_Get.calls k A0 c0 l0 n at_ w HR.out HC.out HA.out).mono ?_; rintro e w1 ⟨rfl, ⟨m1, rfl⟩⟩)
        go_ret
        exact ⟨by first | rfl | trivial, ⟨_, rfl⟩⟩
      · have e4 : (n != (np : Int)) = true := bne_iff_ne.mpr c4
        rw [decide_eq_false (fun hh => c4 hh.2.2.2)]
        clear c1 c2 c3 c4
        go_enter Tryd.func49, Tryd.ntmps49
        go_wp2_with (go_at_call 62; with_reducible refine (vari_Get.calls k A0 c0 l0 n at_ w HR.out HC.out HA.out).mono ?_; rintro e w1 ⟨rfl, ⟨m1, rfl⟩⟩)
        go_ret
        exact ⟨by first | rfl | trivial, ⟨_, rfl⟩⟩
    · have e3 : (n != many) = true := bne_iff_ne.mpr c3
      rw [decide_eq_false (fun hh => c3 hh.2.2.1)]
      clear c1 c2 c3
      go_enter Tryd.func49, Tryd.ntmps49
      go_wp2_with (go_at_call 62; with_reducible refine (vari_Get.calls k A0 c0 l0 n at_ w HR.out HC.out HA.out).mono ?_; rintro e w1 ⟨rfl, ⟨m1, rfl⟩⟩)
      go_ret
      exact ⟨by first | rfl | trivial, ⟨_, rfl⟩⟩
  · have e2 : (at_ != (l0.length : Int)) = true := bne_iff_ne.mpr c2
    rw [decide_eq_false (fun hh => c2 hh.2.1)]
    clear c1 c2
    go_enter Tryd.func49, Tryd.ntmps49
    go_wp2_with (go_at_call 62; with_reducible refine (vari_Get.calls k A0 c0 l0 n at_ w HR.out HC.out HA.out).mono ?_; rintro e w1 ⟨rfl, ⟨m1, rfl⟩⟩)
    go_ret
    exact ⟨by first | rfl | trivial, ⟨_, rfl⟩⟩
/-- one frame of kind c: another order, or how many, the base, and the parts -/
def stepF (k : Nat) (c : Int) (b : List Int) (many base : Int) (ps : List (List Int)) : Option (Option (Int × Int × List (List Int))) :=
  if c = 1 then (headF k b).bind fun q => some (q.map fun t => (t.2, t.1, ps))
  else if ps.length < 1000000000000 then (if c = 2 then (partF k b ps.length).bind fun q => some (q.map fun p => (many, base, ps ++ [p]))
    else if c = 3 then (tailF k b many ps.length).bind fun q => some (if q then some (many, base, ps) else none) else none) else none
/-- what is so of the reader in block g -/
def rdI (g F : Nat) (many base : Int) (ps : List (List Int)) (w0 W : World) : Prop := ∃ Ap cp, W.heap[g]? = some (.cells #[.int .u64 many, .int .u32 base, .slice Ap ps.length cp] 57 (0, 0)) ∧ Kd.S (Kd.slice 5 (Kd.int .u8)) 26 W F (fun _ => True) (.slice Ap ps.length cp) ps ∧ KeepBut w0 W g none ∧ Below g w0 W
theorem below_less {B B' : Nat} {w w' : World} (h : Below B w w') (hl : B' ≤ B) : Below B' w w' := ⟨h.os, h.tape, h.output, h.size, fun k hk => h.block k (by omega)⟩
theorem way_head (k g F : Nat) (A0 : Option Addr) (c0 : Nat) (l0 : List Int) (many base : Int) (ps : List (List Int)) (w0 W : World) (q : Option (Int × Int × List (List Int))) (hF : w0.heap.size = F) (hgF : g < F) (hr0 : Kd.C (Kd.int .u8) W A0 l0.length l0) (hc0 : l0.length ≤ c0) (hI : rdI g F many base ps w0 W) (h : stepF k 1 l0 many base ps = some q) :
    Calls Tryd.prog 47 #[.pointer (some ⟨g, 0, none⟩), .slice A0 l0.length c0] W fun e w' =>
      (q = none ∧ e = .returned (.iface 59 (.agg #[.int .i64 4])) ∧ KeepBut w0 w' g none ∧ Below g w0 w') ∨
      ∃ m b p, q = some (m, b, p) ∧ e = .returned .nilIface ∧ rdI g F m b p w0 w' := by
  obtain ⟨Ap, cp, hG, hS, hK, hB⟩ := hI
  unfold stepF at h
  rw [if_pos rfl] at h
  obtain ⟨q0, h0, h⟩ := Option.bind_eq_some_iff.mp h
  obtain rfl := Option.some.inj h
  have hsz := hK.1
  refine (head_any k g A0 c0 l0 many base _ W q0 hr0 hc0 hG h0).mono ?_
  rintro e w' (⟨rfl, rfl, hb⟩ | ⟨b, m, w1, rfl, rfl, hb, rfl⟩)
  · exact .inl ⟨rfl, rfl, hK.trans (KeepBut.of_below hb g none) (.inl rfl), below_then hB (by omega) hb⟩
  · refine .inr ⟨m, b, ps, rfl, rfl, Ap, cp, ?_, ?_, ?_, ?_⟩
    · exact blk_put (cs := #[.int .u64 many, .int .u32 b, .slice Ap ps.length cp]) (blk_put (blk_below hG hb) 1 _ rfl) 0 _ rfl
    · have h1 := Kd.S_below hS hb
      have h2 := blk_below hG hb
      exact Kd.S_set (Kd.S_set h1 h2 (by decide) 1 _) (blk_put h2 1 _ rfl) (by decide) 0 _
    · exact ((hK.trans (KeepBut.of_below hb g none) (.inl rfl)).set_ 1 _).set_ 0 _
    · exact (((below_then hB (by omega) hb).setCell (Nat.le_refl _) _).setCell (Nat.le_refl _) _)
theorem way_part (k g F : Nat) (A0 : Option Addr) (c0 : Nat) (l0 : List Int) (many base : Int) (ps : List (List Int)) (w0 W : World) (q : Option (Int × Int × List (List Int))) (hF : w0.heap.size = F) (hgF : g < F) (hr0 : Kd.C (Kd.int .u8) W A0 l0.length l0) (hc0 : l0.length ≤ c0) (hI : rdI g F many base ps w0 W) (h : stepF k 2 l0 many base ps = some q) :
    Calls Tryd.prog 48 #[.pointer (some ⟨g, 0, none⟩), .slice A0 l0.length c0] W fun e w' =>
      (q = none ∧ e = .returned (.iface 59 (.agg #[.int .i64 4])) ∧ KeepBut w0 w' g none ∧ Below g w0 w') ∨
      ∃ m b p, q = some (m, b, p) ∧ e = .returned .nilIface ∧ rdI g F m b p w0 w' := by
  obtain ⟨Ap, cp, hG, hS, hK, hB⟩ := hI
  unfold stepF at h
  rw [if_neg (by decide)] at h
  by_cases hl : ps.length < 1000000000000
  · rw [if_pos hl, if_pos rfl] at h
    obtain ⟨q0, h0, h⟩ := Option.bind_eq_some_iff.mp h
    obtain rfl := Option.some.inj h
    have hsz := hK.1
    refine (part_read k g F A0 c0 l0 many base _ ps W q0 hr0 hc0 hG (by omega) hgF hS hl h0).mono ?_
    rintro e w' (⟨rfl, rfl, hb⟩ | ⟨p, vp', w1, rfl, rfl, hb, rfl, hS1, hG1⟩)
    · exact .inl ⟨rfl, rfl, hK.trans (KeepBut.of_below hb g none) (.inl rfl), below_then hB (by omega) hb⟩
    · obtain ⟨A1, c1, rfl⟩ := Kd.S_slice hS1
      have hk1 : KeepBut w0 w1 g none := ⟨Nat.le_trans hK.1 hb.size, fun i hi hg hr => (hb.block i (by omega)).trans (hK.2 i hi hg hr)⟩
      refine .inr ⟨many, base, ps ++ [p], rfl, rfl, A1, c1, ?_, ?_, ?_, ?_⟩
      · exact blk_put hG1 2 _ rfl
      · exact Kd.S_set hS1 hG1 (by decide) 2 _
      · exact hk1.set_ 2 _
      · exact (hB.trans (below_less hb (by omega))).setCell (Nat.le_refl _) _
  · rw [if_neg hl] at h
    exact absurd h (by simp)
theorem way_tail (k g F : Nat) (A0 : Option Addr) (c0 : Nat) (l0 : List Int) (many base : Int) (ps : List (List Int)) (w0 W : World) (q : Option (Int × Int × List (List Int))) (hF : w0.heap.size = F) (hgF : g < F) (hr0 : Kd.C (Kd.int .u8) W A0 l0.length l0) (hc0 : l0.length ≤ c0) (hI : rdI g F many base ps w0 W) (h : stepF k 3 l0 many base ps = some q) :
    Calls Tryd.prog 49 #[.pointer (some ⟨g, 0, none⟩), .slice A0 l0.length c0] W fun e w' =>
      (q = none ∧ e = .returned (.iface 59 (.agg #[.int .i64 4])) ∧ KeepBut w0 w' g none ∧ Below g w0 w') ∨
      ∃ m b p, q = some (m, b, p) ∧ e = .returned .nilIface ∧ rdI g F m b p w0 w' := by
  obtain ⟨Ap, cp, hG, hS, hK, hB⟩ := hI
  unfold stepF at h
  rw [if_neg (by decide)] at h
  by_cases hl : ps.length < 1000000000000
  · rw [if_pos hl, if_neg (by decide), if_pos rfl] at h
    obtain ⟨q0, h0, h⟩ := Option.bind_eq_some_iff.mp h
    obtain rfl := Option.some.inj h
    refine (tail_read k g A0 c0 l0 many base Ap ps.length cp W q0 hr0 hc0 hG hl h0).mono ?_
    rintro e w' ⟨rfl, m, rfl⟩
    cases q0
    · exact .inl ⟨rfl, rfl, keep_drewN hK m, pw_below_drewN hB m⟩
    · exact .inr ⟨many, base, ps, rfl, rfl, Ap, cp, blk_drewN hG m, Kd.S_drewN hS m, keep_drewN hK m, pw_below_drewN hB m⟩
  · rw [if_neg hl] at h
    exact absurd h (by simp)
/-- frame by frame: the error, the base, the parts -/
def readL (k n : Nat) : Nat → Int → Int → List (List Int) → List S50 → Option (Int × Int × List (List Int))
  | _, _, base, ps, [] => some (0, base, ps)
  | i, many, base, ps, x :: xs => (flow_kind.f (i : Int) (n : Int)).bind fun c => if x.f0 = c then (stepF k c x.f1 many base ps).bind fun q => (match q with | none => some (4, 0, []) | some t => readL k n (i + 1) t.1 t.2.1 t.2.2 xs) else some (4, 0, [])
def flow_read.f (k : Nat) (b : List Int) : Option (Int × Int × List (List Int)) := (frame_All.f k b).bind fun t => if t.2 = 0 then (if t.1.length < 2 then some (4, 0, []) else (if t.1.length < 1000000000000 then (readL k t.1.length 0 0 0 [] t.1).bind fun s => (if s.1 = 0 then (flow_May.f s.2.1 s.2.2).bind fun m => some (if m then s else (4, 0, [])) else some s) else none)) else some (t.2, 0, [])
def read10_T : Bool × List (List Nat × List Nat) := (true, [([], []), ([0], [0]), ([], []), ([], []), ([3], [3]), ([2, 4], [2, 4]), ([1, 5], [1, 5])])
def read10_B : List Nat := [0, 1, 0, 0, 8, 28, 63]
theorem read10_tab : rtab .any (opsOf Tryd.f30 10) = read10_T := by kernel_rfl
theorem read10_bits : waitsOk read10_T.2 read10_B = true := by kernel_rfl
def read12_T : Bool × List (List Nat × List Nat) := (true, [([], []), ([0], [0]), ([1], [1]), ([2], [2]), ([], []), ([4], [4]), ([3, 5], [3, 5]), ([6, 6, 0, 1, 2, 3, 4, 5, 6], [6])])
def read12_B : List Nat := [0, 1, 3, 7, 0, 16, 63, 127]
theorem read12_tab : rtab .any (opsOf Tryd.f30 12) = read12_T := by kernel_rfl
theorem read12_bits : waitsOk read12_T.2 read12_B = true := by kernel_rfl
def errV (r : Int) : Value := if r = 0 then .nilIface else .iface 59 (.agg #[.int .i64 r])
theorem errV_bad (r : Int) (h : r ≠ 0) : errV r = .iface 59 (.agg #[.int .i64 r]) := if_neg h
def readPost (g : Nat) (w : World) (r1 r2 : Int) (r3 : List (List Int)) (w' : World) : Prop := KeepBut w w' g none ∧ Below g w w' ∧
      (r1 = 0 → ∃ many Ap cp, w'.heap[g]? = some (.cells #[.int .u64 many, .int .u32 r2, .slice Ap r3.length cp] 57 (0, 0)) ∧ Kd.S (Kd.slice 5 (Kd.int .u8)) 26 w' w.heap.size (fun _ => True) (.slice Ap r3.length cp) r3)
@[local go_sem] theorem store_nilFunc (P : Program) (w : World) (a : Addr) (m : Mode) : (store a .nilFunc m).run P w = stored P w a .nilFunc m := run_store P w a _ m rfl
@[local go_sem] theorem store_func (P : Program) (w : World) (a : Addr) (m : Mode) (f : Fn) (b : Array Value) (c) : (store a (.func f b c) m).run P w = stored P w a (.func f b c) m := run_store P w a _ m rfl
theorem ways_new (w : World) (a b c d : Value) (t : TypeId) : (w.alloc (.cells #[a, b, c, d] t)).cell? ⟨w.heap.size, 0, none⟩ = some a ∧ (w.alloc (.cells #[a, b, c, d] t)).cell? ⟨w.heap.size, 1, none⟩ = some b ∧ (w.alloc (.cells #[a, b, c, d] t)).cell? ⟨w.heap.size, 2, none⟩ = some c ∧ (w.alloc (.cells #[a, b, c, d] t)).cell? ⟨w.heap.size, 3, none⟩ = some d ∧
    (w.alloc (.cells #[a, b, c, d] t)).frozen? ⟨w.heap.size, 0, none⟩ = false ∧ (w.alloc (.cells #[a, b, c, d] t)).frozen? ⟨w.heap.size, 1, none⟩ = false ∧ (w.alloc (.cells #[a, b, c, d] t)).frozen? ⟨w.heap.size, 2, none⟩ = false ∧ (w.alloc (.cells #[a, b, c, d] t)).frozen? ⟨w.heap.size, 3, none⟩ = false := by
  have hk : (w.alloc (.cells #[a, b, c, d] t)).heap[w.heap.size]? = some (.cells #[a, b, c, d] t (0, 0)) := heap_alloc_new _ _
  exact ⟨(blk_cell hk 0).trans rfl, (blk_cell hk 1).trans rfl, (blk_cell hk 2).trans rfl, (blk_cell hk 3).trans rfl, blk_frozen hk 0, blk_frozen hk 1, blk_frozen hk 2, blk_frozen hk 3⟩
theorem ways_set (w w' : World) (a b c d a' b' c' d' : Value) (t : TypeId) (h : w' = ((((w.alloc (.cells #[a, b, c, d] t)).setCell ⟨w.heap.size, 0, none⟩ a').setCell ⟨w.heap.size, 1, none⟩ b').setCell ⟨w.heap.size, 2, none⟩ c').setCell ⟨w.heap.size, 3, none⟩ d') :
    w'.heap[w.heap.size]? = some (.cells #[a', b', c', d'] t (0, 0)) ∧ Below w.heap.size w w' ∧ w'.heap.size = w.heap.size + 1 := by
  subst h
  have hk : (w.alloc (.cells #[a, b, c, d] t)).heap[w.heap.size]? = some (.cells #[a, b, c, d] t (0, 0)) := heap_alloc_new _ _
  refine ⟨?_, ?_, ?_⟩
  · exact blk_put (blk_put (blk_put (blk_put hk 0 a' rfl) 1 b' rfl) 2 c' rfl) 3 d' rfl
  · exact below_set (below_set (below_set (below_set (below_alloc (Below.refl _ _) _) (Nat.le_refl _)) (Nat.le_refl _)) (Nat.le_refl _)) (Nat.le_refl _)
  · simp only [World.setCell, Array.size_modify, World.size_alloc]
theorem goesC_ {P : Program} {ops : Array Oper} {Q : Exit → Act → World → Prop} {oi : Oper} {N : Option Tmp} {a : Act} {w : World} {K : Act → World → Prop} {f : FuncId} {fn : Func} {x : Operand} {b : Array Value} {as_ : Array Operand} {ts : Array TypeId} (hf : P.funcs[f]? = some fn) (hname : (fn.name == "runtime.NumGoroutine") = false) (hb : fn.body.isSome = true) (args : Array Value)
    (hw : Region.wanted oi (yielded ops a.tmps) = true) (hN : oi.dst = N) (hop : oi.op = .call { callee := .value x, args := as_, argTypes := ts }) (hx : a.eval x = .func (.func f) b #[]) (hargs : b ++ as_.map a.eval = args)
    (h : Calls P f args w fun e w' => ∃ v, e = .returned v ∧ K (a.put N v) w') : if Region.wanted oi (yielded ops a.tmps) = true then Oper.wp P oi a w K Q else K (a.put N undef) w := by
  refine call_ f args hw hN ?_ h
  have he := enters_ hf hname hb args w
  unfold execOp
  simp [hop, resolve, Deferred.ofValue, invoke, hx, hargs, he]
theorem box_is (w w' : World) (a b : Value) (t : TypeId) (h : w' = w.alloc (.cells #[a, b] t)) : w'.heap[w.heap.size]? = some (.cells #[a, b] t (0, 0)) ∧ Below w.heap.size w w' := by
  subst h
  exact ⟨heap_alloc_new _ _, below_alloc (Below.refl _ _) _⟩
theorem rdI_below {g F : Nat} {many base : Int} {ps : List (List Int)} {w0 W W' : World} (h : rdI g F many base ps w0 W) (hb : Below W.heap.size W W') (hg : g ≤ W.heap.size) : rdI g F many base ps w0 W' := by
  obtain ⟨Ap, cp, hG, hS, hK, hB⟩ := h
  exact ⟨Ap, cp, blk_below hG hb, Kd.S_below hS hb, hK.trans (KeepBut.of_below hb g none) (.inl rfl), below_then hB hg hb⟩
theorem readL_at (k n : Nat) (l : List S50) (j : Nat) (many base : Int) (ps : List (List Int)) (hj : j < l.length) : readL k n j many base ps (l.drop j) = (flow_kind.f (j : Int) (n : Int)).bind fun c => if (rd_T50 l (j : Int)).f0 = c then (stepF k c (rd_T50 l (j : Int)).f1 many base ps).bind fun q => (match q with | none => some (4, 0, []) | some t => readL k n (j + 1) t.1 t.2.1 t.2.2 (l.drop (j + 1))) else some (4, 0, []) := by
  have e : l.drop j = rd_T50 l (j : Int) :: l.drop (j + 1) := by
    rw [List.drop_eq_getElem_cons hj]
    unfold rd_T50
    rw [Int.toNat_natCast, List.getD_eq_getElem?_getD, List.getElem?_eq_getElem hj]
    rfl
  rw [e]
  rfl
theorem readL_end (k n : Nat) (l : List S50) (j : Nat) (many base : Int) (ps : List (List Int)) (hj : l.length ≤ j) : readL k n j many base ps (l.drop j) = some (0, base, ps) := by
  rw [List.drop_eq_nil_of_le hj]
  rfl
theorem kind_three (j n c : Int) (h : flow_kind.f j n = some c) : c = 1 ∨ c = 2 ∨ c = 3 := by
  unfold flow_kind.f at h
  split at h
  · exact .inl (Option.some.inj h).symm
  · split at h
    · exact .inr (.inr (Option.some.inj h).symm)
    · exact .inr (.inl (Option.some.inj h).symm)
theorem H_four {r1 r2 : Int} {r3 : List (List Int)} (h : (if (4, 0, ([] : List (List Int))).1 = 0 then (flow_May.f ((4 : Int), (0 : Int), ([] : List (List Int))).2.1 ((4 : Int), (0 : Int), ([] : List (List Int))).2.2).bind fun m => some (if m = true then (4, 0, []) else (4, 0, [])) else some (4, 0, [])) = some (r1, r2, r3)) : r1 = 4 := by
  rw [if_neg (by decide)] at h
  exact (congrArg Prod.fst (Option.some.inj h)).symm
theorem post_any {g : Nat} {w w2 w' : World} {r1 r2 : Int} {r3 : List (List Int)} (hb : Below w.heap.size w w2) (hg : g < w.heap.size) (hk : KeepBut w2 w' g none) (hb' : Below g w2 w') (h : r1 = 4) : readPost g w r1 r2 r3 w' :=
  ⟨(KeepBut.of_below hb g none).trans hk (.inl rfl), (below_less hb (Nat.le_of_lt hg)).trans hb', fun hh => by omega⟩
theorem post_four {g : Nat} {w w2 w' : World} {r1 r2 : Int} {r3 : List (List Int)} (hb : Below w.heap.size w w2) (hg : g < w.heap.size) (hk : KeepBut w2 w' g none) (hb' : Below g w2 w') (h : (if (4, 0, ([] : List (List Int))).1 = 0 then (flow_May.f ((4 : Int), (0 : Int), ([] : List (List Int))).2.1 ((4 : Int), (0 : Int), ([] : List (List Int))).2.2).bind fun m => some (if m = true then (4, 0, []) else (4, 0, [])) else some (4, 0, [])) = some (r1, r2, r3)) : readPost g w r1 r2 r3 w' := post_any hb hg hk hb' (H_four h)
theorem end_may {base : Int} {ps : List (List Int)} {q : Option (Int × Int × List (List Int))} (h : (if ((0 : Int), base, ps).1 = 0 then (flow_May.f ((0 : Int), base, ps).2.1 ((0 : Int), base, ps).2.2).bind fun m => some (if m = true then (0, base, ps) else (4, 0, [])) else some (0, base, ps)) = q) : ∃ m, flow_May.f base ps = some m ∧ some (if m = true then (0, base, ps) else (4, 0, [])) = q := by
  rw [if_pos rfl] at h
  subst h
  exact ⟨_, rfl, rfl⟩
theorem H_bad {base r1 r2 : Int} {ps r3 : List (List Int)} (h : some (if false = true then ((0 : Int), base, ps) else (4, 0, [])) = some (r1, r2, r3)) : r1 = 4 := (congrArg Prod.fst (Option.some.inj h)).symm
theorem H_good {base r1 r2 : Int} {ps r3 : List (List Int)} (h : some (if true = true then ((0 : Int), base, ps) else (4, 0, [])) = some (r1, r2, r3)) : r1 = 0 := (congrArg Prod.fst (Option.some.inj h)).symm
theorem post_bad {g : Nat} {w w2 w' : World} {base r1 r2 : Int} {ps r3 : List (List Int)} (hb : Below w.heap.size w w2) (hg : g < w.heap.size) (hk : KeepBut w2 w' g none) (hb' : Below g w2 w') (h : some (if false = true then ((0 : Int), base, ps) else (4, 0, [])) = some (r1, r2, r3)) : readPost g w r1 r2 r3 w' := post_any hb hg hk hb' (H_bad h)
theorem post_good {g : Nat} {w w2 w' : World} {many base r1 r2 : Int} {ps r3 : List (List Int)} {Ap : Option Addr} {cp : Nat} (hb : Below w.heap.size w w2) (hg : g < w.heap.size) (hk : KeepBut w2 w' g none) (hb' : Below g w2 w') (hG : w'.heap[g]? = some (.cells #[.int .u64 many, .int .u32 base, .slice Ap ps.length cp] 57 (0, 0)))
    (hS : Kd.S (Kd.slice 5 (Kd.int .u8)) 26 w' w2.heap.size (fun _ => True) (.slice Ap ps.length cp) ps) (h : some (if true = true then ((0 : Int), base, ps) else (4, 0, [])) = some (r1, r2, r3)) : readPost g w r1 r2 r3 w' := by
  have h' := Option.some.inj h
  rw [if_pos rfl] at h'
  obtain ⟨_, h'⟩ := Prod.mk.inj h'
  obtain ⟨rfl, rfl⟩ := Prod.mk.inj h'
  exact ⟨(KeepBut.of_below hb g none).trans hk (.inl rfl), (below_less hb (Nat.le_of_lt hg)).trans hb', fun _ => ⟨many, Ap, cp, hG, Kd.S_lower hS hb.size⟩⟩
set_option maxHeartbeats 8000000 in
set_option maxRecDepth 100000 in
theorem flow_read.calls (k : Nat) (g : Nat) (A0 : Option Addr) (c0 : Nat) (l0 : List Int) (r1 r2 : Int) (r3 : List (List Int)) (w : World) (hr0 : Kd.C (Kd.int .u8) w A0 l0.length l0) (hc0 : l0.length ≤ c0) (hb : w.heap[g]? = some (.cells #[.int .u64 0, .int .u32 0, .slice none 0 0] 57 (0, 0))) (h : flow_read.f k l0 = some (r1, r2, r3)) :
    Calls Tryd.prog 30 #[.pointer (some ⟨g, 0, none⟩), .slice A0 l0.length c0] w fun e w' => e = .returned (errV r1) ∧ readPost g w r1 r2 r3 w' := by
  have HR := Aside0.mk hr0
  have HC := Aside0.mk hc0
  have HG := Aside0.mk hb
  have hgl : g < w.heap.size := blk_lt hb
  have HGL := Aside0.mk hgl
  unfold flow_read.f at h
  obtain ⟨⟨l, er⟩, ha, h⟩ := Option.bind_eq_some_iff.mp h
  have HA := Aside0.mk ha
  have hu1 := Tryd.underlying90
  clear hr0 hc0 hb ha hgl
  dsimp only at h
  by_cases c1 : er = 0
  · rw [if_pos c1] at h
    subst c1
    have e1 : ((0 : Int) != 0) = false := rfl
    by_cases c2 : l.length < 2
    · rw [if_pos c2] at h
      simp only [Option.some.injEq, Prod.mk.injEq] at h
      obtain ⟨rfl, rfl, rfl⟩ := h
      have d2 : decide ((l.length : Int) < 2) = true := decide_eq_true (by omega)
      clear c2
      go_enter Tryd.func30, Tryd.ntmps30
      go_wp2_with (go_at_call 24; with_reducible refine (frame_All.calls k A0 c0 l0 l 0 w HR.out HC.out HA.out).mono ?_; rintro e w1 ⟨v0, rfl, hs, hb⟩; obtain ⟨Af, cf, ef⟩ := Kd.S_slice hs; subst ef)
      go_ret
      exact ⟨by rw [errV_bad 4 (by decide)]; first | rfl | trivial, KeepBut.of_below hb g none, below_less hb (Nat.le_of_lt HGL.out), fun hh => absurd hh (by decide)⟩
    · rw [if_neg c2] at h
      by_cases c3 : l.length < 1000000000000
      · rw [if_pos c3] at h
        have d2 : decide ((l.length : Int) < 2) = false := decide_eq_false (by omega)
        obtain ⟨s, h0, h⟩ := Option.bind_eq_some_iff.mp h
        have H0 := Aside0.mk h0
        have H := Aside0.mk h
        have C3 := Aside0.mk c3
        clear c2 c3 h h0
        go_enter Tryd.func30, Tryd.ntmps30
        go_wp2_with (first
          | (go_at_call 24; with_reducible refine (frame_All.calls k A0 c0 l0 l 0 w HR.out HC.out HA.out).mono ?_; rintro e w1 ⟨v0, rfl, hs, hb⟩; obtain ⟨Af, cf, ef⟩ := Kd.S_slice hs; subst ef; have HS := Aside0.mk hs; have HB := Aside0.mk hb; clear hs hb; obtain ⟨hcz0, hcz1, hcz2, hcz3, hfz0, hfz1, hfz2, hfz3⟩ := ways_new w1 .nilFunc .nilFunc .nilFunc .nilFunc 90)
          | ((with_reducible refine gate_store (t := 90) (p := 7) rfl ?_); refine store_event (t := 90) (p := 7) (v := ?vo_w13) (w1 := (((((w1.alloc (.cells #[.nilFunc, .nilFunc, .nilFunc, .nilFunc] 90)).setCell ⟨w1.heap.size, 0, none⟩ .nilFunc).setCell ⟨w1.heap.size, 1, none⟩ (.func (.func 47) #[.pointer (some ⟨g, 0, none⟩)] #[])).setCell ⟨w1.heap.size, 2, none⟩ (.func (.func 48) #[.pointer (some ⟨g, 0, none⟩)] #[])).setCell ⟨w1.heap.size, 3, none⟩ (.func (.func 49) #[.pointer (some ⟨g, 0, none⟩)] #[]))) ?hg ?ho ?hn ?hr ?_; (case ho => rfl); (case hg => rfl); (case hn => rfl); (case hr => first | (go_simp; done) | (go_simp; rfl)); intro w2 hw; obtain ⟨hw1, hw2, hw3⟩ := ways_set _ _ _ _ _ _ _ _ _ _ _ hw; have HW := Aside0.mk hw1; have HW2 := Aside0.mk hw2; have HW3 := Aside0.mk hw3; clear hw hw1 hw2 hw3 hcz0 hcz1 hcz2 hcz3 hfz0 hfz1 hfz2 hfz3))
        have HGF := Aside0.mk (show g < w2.heap.size by have := HGL.out; have := HB.out.size; have := HW3.out; omega)
        have HNG := Aside0.mk (show w1.heap.size ≠ g by have := HGL.out; have := HB.out.size; omega)
        have HFT : Aside0 (∀ W', KeepBut w2 W' g none → Kd.C k50 W' Af l.length l) := ⟨Kd.C_foot_own (Kd.R_bound (Kd.S_R (Kd.S_below HS.out HW2.out))) (fun k_ hk => by have := hk.2.1; have := HGL.out; omega)⟩
        have HST : Aside0 (rdI g w2.heap.size 0 0 [] w2 w2) := ⟨⟨none, 0, blk_below (blk_below HG.out HB.out) HW2.out, Kd.S_nil _ _ _ _ _, KeepBut.refl _ _ _, Below.refl _ _⟩⟩
        have HB2 : Aside0 (Below w.heap.size w w2) := ⟨below_step HB.out HW2.out⟩
        clear HS HB HW2 HW3 HG HR HC HA
        go_loopw [35] (fun i wr => ∃ (j : Nat) (many base : Int) (ps : List (List Int)), j ≤ l.length ∧ i = .int .i64 (j : Int) ∧ Aside0 (readL k l.length j many base ps (l.drop j) = some s) ∧ Aside0 (rdI g w2.heap.size many base ps w2 wr)) (fun i _ => match i with | .int _ m => ((l.length : Int) - m).toNat | _ => 0)
        case atStart => exact ⟨0, 0, 0, [], by omega, rfl, ⟨H0.out⟩, HST⟩
        case round =>
          clear H0 HST
          obtain ⟨j, many, base, ps, hj, rfl, HL, HI⟩ := hrel
          by_cases hlt : j < l.length
          · have hb : decide ((j : Int) < (l.length : Int)) = true := decide_eq_true (by omega)
            have hb2 : decide (j < l.length) = true := decide_eq_true (by omega)
            have hL := HL.out
            rw [readL_at _ _ _ _ _ _ _ hlt] at hL
            obtain ⟨c, hc, hL⟩ := Option.bind_eq_some_iff.mp hL
            have HKD := Aside0.mk hc
            have hat_ := at_T50 (HFT.out _ (by obtain ⟨_, _, _, _, hK_, _⟩ := HI.out; exact hK_)) (j : Int) (by omega) (by omega)
            generalize hx : rd_T50 l (j : Int) = x at hL hat_
            obtain ⟨x0, x1⟩ := x
            dsimp only at hL hat_
            obtain ⟨ad, A1, c1, rfl, hcell0, hcell1, hlen, hCx⟩ := hat_
            rw [Int.toNat_natCast] at hcell0 hcell1
            have HLE := Aside0.mk hlen
            have HCX := Aside0.mk hCx
            have HLT := Aside0.mk hlt
            have hk1 : wrap64 ((j : Int) + 1) = (j : Int) + 1 := by have := C3.out; unfold wrap64; omega
            clear hc hx hlen hCx hj HL
            by_cases cc : x0 = c
            · subst cc
              rw [if_pos rfl] at hL
              obtain ⟨q, hq, hL⟩ := Option.bind_eq_some_iff.mp hL
              have HQ := Aside0.mk hq
              have HLL := Aside0.mk hL
              have ec : (x0 != x0) = false := bne_self_eq_false _
              obtain c3 := kind_three _ _ _ HKD.out
              clear hL hq
              rcases c3 with rfl | rfl | rfl
              · go_upto_region 10 with (fail)
                obtain ⟨w3, hw⟩ : ∃ w3, w3 = wr.alloc (.cells #[.int .i64 1, .slice A1 x1.length c1] 50) := ⟨_, rfl⟩
                rw [← hw]
                obtain ⟨hw1, hw2⟩ := box_is _ _ _ _ _ hw
                have HBX := Aside0.mk hw1
                have HBW := Aside0.mk hw2
                clear hw hw1 hw2
                have HS0 : Aside0 (w3.drew.cell? ⟨wr.heap.size, 0, none⟩ = some (.int .i64 1)) := ⟨(blk_cell (blk_drew HBX.out) 0).trans rfl⟩
                have HBX1 := Aside0.mk (blk_drew HBX.out)
                have HBW1 := Aside0.mk (below_drew1 HBW.out)
                clear HBX HBW hcell0 hcell1
                refine start_ (n := 7) (S := fun w' => w'.cell? ⟨wr.heap.size, 0, none⟩ = some (.int .i64 1)) (ds := []) #[false, false, false, false, false, false, false] (by kernel_rfl) rfl rfl HS0.out (fun hHeld => ?_)
                refine with_tabW read10_tab read10_bits (fun HT_ HW_ => ?_)
                generalize w3.drew = w4 at HS0 HBX1 HBW1 hHeld ⊢
                refine pure_ (i := 0) (N := some 40) (v := ?_) (a' := ?_) #[true, false, false, false, false, false, false] rfl rfl (any_of HT_.out (by kernel_rfl)) (fun _ _ _ h => h) (Or.inl ⟨by rfl, ?_⟩) ?_ ?_
                rotate_left
                · intro w'
                  go_simp
                  with_reducible rfl
                rotate_left
                · simp only [Act.put, List.setIfInBounds_toArray, List.set_cons_zero, List.set_cons_succ, i64_w, i32_w]
                  rfl
                refine pure_ (i := 2) (N := some 42) (v := ?_) (a' := ?_) #[true, false, true, false, false, false, false] rfl rfl (any_of HT_.out (by kernel_rfl)) (fun _ _ _ h => h) (Or.inl ⟨by rfl, ?_⟩) ?_ ?_
                rotate_left
                · intro w'
                  go_simp
                  with_reducible rfl
                rotate_left
                · simp only [Act.put, List.setIfInBounds_toArray, List.set_cons_zero, List.set_cons_succ, i64_w, i32_w]
                  rfl
                refine pure_ (i := 3) (N := some 43) (v := ?_) (a' := ?_) #[true, false, true, true, false, false, false] rfl rfl (any_of HT_.out (by kernel_rfl)) (fun _ _ _ h => h) (Or.inl ⟨by rfl, ?_⟩) ?_ ?_
                rotate_left
                · intro w'
                  go_simp
                  with_reducible rfl
                rotate_left
                · simp only [Act.put, List.setIfInBounds_toArray, List.set_cons_zero, List.set_cons_succ, i64_w, i32_w]
                  rfl
                refine pure_ (i := 4) (N := some 44) (v := ?_) (a' := ?_) #[true, false, true, true, true, false, false] rfl rfl (any_of HT_.out (by kernel_rfl)) (fun _ _ _ h => h) (Or.inl ⟨by rfl, ?_⟩) ?_ ?_
                rotate_left
                · intro w'
                  go_simp
                  with_reducible rfl
                rotate_left
                · simp only [Act.put, List.setIfInBounds_toArray, List.set_cons_zero, List.set_cons_succ, i64_w, i32_w]
                  rfl
                refine take_ (i := 1) (N := some 41) (v := ?_) (a' := ?_) #[true, true, true, true, true, false, false] rfl rfl (take_ofW HT_.out HW_.out (by kernel_rfl)) (fun _ _ _ h => h) (Or.inl ⟨by rfl, ?_⟩) hHeld ?_ ?_
                rotate_left
                · rintro w' s0
                  go_simp
                  with_reducible rfl
                rotate_left
                · simp only [Act.put, List.setIfInBounds_toArray, List.set_cons_zero, List.set_cons_succ, i64_w, i32_w]
                  rfl
                refine one_ (i := 5) (N := some 45) #[true, true, true, true, true, true, false] rfl rfl (one_of HT_.out (by kernel_rfl)) (by decide) (fun K hK => ?_)
                refine goes_ Tryd.func50 (by kernel_rfl) rfl #[.int .i64 (j : Int), .int .i64 (l.length : Int)] (by rfl) rfl rfl (by simp only [List.map_toArray, List.map_cons, List.map_nil]; rfl) ?_
                with_reducible refine (flow_kind.calls (j : Int) (l.length : Int) _ w4 HKD.out).mono ?_
                rintro e w5 ⟨rfl, ⟨m1, rfl⟩⟩
                refine ⟨_, rfl, ?_⟩
                refine hK.out _ _ hHeld (fun hHeld => ?_)
                clear hK K
                refine norm_ (a' := ?_) ?_ ?_
                rotate_left
                · show Act.put _ (some 45) _ = _
                  simp only [Act.put, List.setIfInBounds_toArray, List.set_cons_zero, List.set_cons_succ, i64_w, i32_w]
                  rfl
                refine pure_ (i := 6) (N := some 46) (v := ?_) (a' := ?_) #[true, true, true, true, true, true, true] rfl rfl (any_of HT_.out (by kernel_rfl)) (fun _ _ _ h => h) (Or.inl ⟨by rfl, ?_⟩) ?_ ?_
                rotate_left
                · intro w'
                  go_simp
                  with_reducible rfl
                rotate_left
                · simp only [Act.put, List.setIfInBounds_toArray, List.set_cons_zero, List.set_cons_succ, i64_w, i32_w]
                  rfl
                refine done_ (done_of HT_.out (by kernel_rfl)) ?_
                have HBX2 := Aside0.mk (blk_drewN HBX1.out m1)
                have HBW2 := Aside0.mk (pw_below_drewN HBW1.out m1)
                clear HBX1 HBW1 HS0 hHeld
                generalize w4.drewN m1 = w5 at HBX2 HBW2 ⊢
                have HI5 : Aside0 (rdI g w2.heap.size many base ps w2 w5) := ⟨rdI_below HI.out HBW2.out (by obtain ⟨_, _, hg_, _, _, _⟩ := HI.out; exact Nat.le_of_lt (blk_lt hg_))⟩
                have HWY : Aside0 (w5.heap[w1.heap.size]? = some (.cells #[.nilFunc, .func (.func 47) #[.pointer (some ⟨g, 0, none⟩)] #[], .func (.func 48) #[.pointer (some ⟨g, 0, none⟩)] #[], .func (.func 49) #[.pointer (some ⟨g, 0, none⟩)] #[]] 90 (0, 0))) := ⟨by obtain ⟨_, _, _, _, hK_, _⟩ := HI5.out; exact hK_.blk HW.out HNG.out (by simp)⟩
                have HS1 : Aside0 (w5.drew.cell? ⟨wr.heap.size, 0, none⟩ = some (.int .i64 1) ∧ w5.drew.cell? ⟨wr.heap.size, 1, none⟩ = some (.slice A1 x1.length c1) ∧ w5.drew.cell? ⟨w1.heap.size, 1, none⟩ = some (.func (.func 47) #[.pointer (some ⟨g, 0, none⟩)] #[])) := ⟨(blk_cell (blk_drew HBX2.out) 0).trans rfl, (blk_cell (blk_drew HBX2.out) 1).trans rfl, (blk_cell (blk_drew HWY.out) 1).trans rfl⟩
                have HI6 : Aside0 (rdI g w2.heap.size many base ps w2 w5.drew) := ⟨rdI_below HI5.out (below_drew1 (Below.refl _ _)) (by obtain ⟨_, _, hg_, _, _, _⟩ := HI5.out; exact Nat.le_of_lt (blk_lt hg_))⟩
                have HCX6 := Aside0.mk (Kd.C_drew (Kd.C_below HCX.out HBW2.out))
                go_upto_region 12 with (fail)
                refine start_ (n := 8) (S := fun w' => w'.cell? ⟨wr.heap.size, 0, none⟩ = some (.int .i64 1) ∧ w'.cell? ⟨wr.heap.size, 1, none⟩ = some (.slice A1 x1.length c1) ∧ w'.cell? ⟨w1.heap.size, 1, none⟩ = some (.func (.func 47) #[.pointer (some ⟨g, 0, none⟩)] #[])) (ds := [6]) #[false, false, false, false, false, false, false, false] (by kernel_rfl) rfl rfl HS1.out (fun hHeld => ?_)
                refine with_tabW read12_tab read12_bits (fun HT_ HW_ => ?_)
                generalize w5.drew = w6 at HS1 HI6 HCX6 hHeld ⊢
                clear HWY HBX2 HBW2 HI5 HCX HI
                refine pure_ (i := 0) (N := some 49) (v := ?_) (a' := ?_) #[true, false, false, false, false, false, false, false] rfl rfl (any_of HT_.out (by kernel_rfl)) (fun _ _ _ h => h) (Or.inl ⟨by rfl, ?_⟩) ?_ ?_
                rotate_left
                · intro w'
                  go_simp
                  with_reducible rfl
                rotate_left
                · simp only [Act.put, List.setIfInBounds_toArray, List.set_cons_zero, List.set_cons_succ, i64_w, i32_w]
                  rfl
                refine pure_ (i := 4) (N := some 53) (v := ?_) (a' := ?_) #[true, false, false, false, true, false, false, false] rfl rfl (any_of HT_.out (by kernel_rfl)) (fun _ _ _ h => h) (Or.inl ⟨by rfl, ?_⟩) ?_ ?_
                rotate_left
                · intro w'
                  go_simp
                  with_reducible rfl
                rotate_left
                · simp only [Act.put, List.setIfInBounds_toArray, List.set_cons_zero, List.set_cons_succ, i64_w, i32_w]
                  rfl
                refine take_ (i := 1) (N := some 50) (v := ?_) (a' := ?_) #[true, true, false, false, true, false, false, false] rfl rfl (take_ofW HT_.out HW_.out (by kernel_rfl)) (fun _ _ _ h => h) (Or.inl ⟨by rfl, ?_⟩) hHeld ?_ ?_
                rotate_left
                · rintro w' ⟨s0, s1, s2⟩
                  go_simp
                  with_reducible rfl
                rotate_left
                · simp only [Act.put, List.setIfInBounds_toArray, List.set_cons_zero, List.set_cons_succ, i64_w, i32_w]
                  rfl
                refine take_ (i := 5) (N := some 54) (v := ?_) (a' := ?_) #[true, true, false, false, true, true, false, false] rfl rfl (take_ofW HT_.out HW_.out (by kernel_rfl)) (fun _ _ _ h => h) (Or.inl ⟨by rfl, ?_⟩) hHeld ?_ ?_
                rotate_left
                · rintro w' ⟨s0, s1, s2⟩
                  go_simp
                  with_reducible rfl
                rotate_left
                · simp only [Act.put, List.setIfInBounds_toArray, List.set_cons_zero, List.set_cons_succ, i64_w, i32_w]
                  rfl
                refine pure_ (i := 2) (N := some 51) (v := ?_) (a' := ?_) #[true, true, true, false, true, true, false, false] rfl rfl (any_of HT_.out (by kernel_rfl)) (fun _ _ _ h => h) (Or.inl ⟨by rfl, ?_⟩) ?_ ?_
                rotate_left
                · intro w'
                  go_simp
                  with_reducible rfl
                rotate_left
                · simp only [Act.put, List.setIfInBounds_toArray, List.set_cons_zero, List.set_cons_succ, i64_w, i32_w]
                  rfl
                refine take_ (i := 3) (N := some 52) (v := ?_) (a' := ?_) #[true, true, true, true, true, true, false, false] rfl rfl (take_ofW HT_.out HW_.out (by kernel_rfl)) (fun _ _ _ h => h) (Or.inl ⟨by rfl, ?_⟩) hHeld ?_ ?_
                rotate_left
                · rintro w' ⟨s0, s1, s2⟩
                  go_simp
                  with_reducible rfl
                rotate_left
                · simp only [Act.put, List.setIfInBounds_toArray, List.set_cons_zero, List.set_cons_succ, i64_w, i32_w]
                  rfl
                refine last_ (i := 6) (N := some 55) #[true, true, true, true, true, true, true, false] rfl rfl (one_of HT_.out (by kernel_rfl)) (by decide) (fun K hK => ?_)
                refine goesC_ Tryd.func47 (by kernel_rfl) rfl #[.pointer (some ⟨g, 0, none⟩), .slice A1 x1.length c1] (by rfl) rfl rfl rfl (by simp only [List.map_toArray, List.map_cons, List.map_nil]; rfl) ?_
                with_reducible refine (way_head k g w2.heap.size A1 c1 x1 many base ps w2 w6 q rfl HGF.out HCX6.out HLE.out HI6.out HQ.out).mono ?_
                rintro e w7 (⟨rfl, rfl, hk7, hb7⟩ | ⟨m', b', p', rfl, rfl, hi7⟩)
                · have hL := HLL.out
                  obtain rfl := Option.some.inj hL
                  have HK7 := Aside0.mk hk7
                  have HB7 := Aside0.mk hb7
                  clear hL hk7 hb7
                  refine ⟨_, rfl, ?_⟩
                  refine hK.out _ _ ?_
                  clear hK K HLL
                  refine norm_ (a' := ?_) ?_ ?_
                  rotate_left
                  · show Act.put _ (some 55) _ = _
                    simp only [Act.put, List.setIfInBounds_toArray, List.set_cons_zero, List.set_cons_succ, i64_w, i32_w]
                    rfl
                  refine pure_ (i := 7) (N := some 10) (v := ?_) (a' := ?_) #[true, true, true, true, true, true, true, true] rfl rfl (any_of HT_.out (by kernel_rfl)) (fun _ _ _ h => h) (Or.inl ⟨by rfl, ?_⟩) ?_ ?_
                  rotate_left
                  · intro w'
                    go_simp
                    with_reducible rfl
                  rotate_left
                  · simp only [Act.put, List.setIfInBounds_toArray, List.set_cons_zero, List.set_cons_succ, i64_w, i32_w]
                    rfl
                  refine done_ (done_of HT_.out (by kernel_rfl)) ?_
                  clear HS1 hHeld
                  go_wp2
                  go_ret
                  exact ⟨by rw [H_four H.out]; first | rfl | trivial, post_four HB2.out HGL.out HK7.out HB7.out H.out⟩
                · refine ⟨_, rfl, ?_⟩
                  have HI7 := Aside0.mk hi7
                  have HL7 : Aside0 (readL k l.length (j + 1) m' b' p' (l.drop (j + 1)) = some s) := ⟨HLL.out⟩
                  refine hK.out _ _ ?_
                  clear hK K HLL hi7
                  refine norm_ (a' := ?_) ?_ ?_
                  rotate_left
                  · show Act.put _ (some 55) _ = _
                    simp only [Act.put, List.setIfInBounds_toArray, List.set_cons_zero, List.set_cons_succ, i64_w, i32_w]
                    rfl
                  refine pure_ (i := 7) (N := some 10) (v := ?_) (a' := ?_) #[true, true, true, true, true, true, true, true] rfl rfl (any_of HT_.out (by kernel_rfl)) (fun _ _ _ h => h) (Or.inl ⟨by rfl, ?_⟩) ?_ ?_
                  rotate_left
                  · intro w'
                    go_simp
                    with_reducible rfl
                  rotate_left
                  · simp only [Act.put, List.setIfInBounds_toArray, List.set_cons_zero, List.set_cons_succ, i64_w, i32_w]
                    rfl
                  refine done_ (done_of HT_.out (by kernel_rfl)) ?_
                  clear HS1 hHeld
                  go_wp2
                  go_roundw
                  case rel => exact ⟨j + 1, m', b', p', HLT.out, by rw [hk1]; rfl, HL7, HI7⟩
                  case measure => rw [hk1]; have := HLT.out; simp; omega
              · go_upto_region 10 with (fail)
                obtain ⟨w3, hw⟩ : ∃ w3, w3 = wr.alloc (.cells #[.int .i64 2, .slice A1 x1.length c1] 50) := ⟨_, rfl⟩
                rw [← hw]
                obtain ⟨hw1, hw2⟩ := box_is _ _ _ _ _ hw
                have HBX := Aside0.mk hw1
                have HBW := Aside0.mk hw2
                clear hw hw1 hw2
                have HS0 : Aside0 (w3.drew.cell? ⟨wr.heap.size, 0, none⟩ = some (.int .i64 2)) := ⟨(blk_cell (blk_drew HBX.out) 0).trans rfl⟩
                have HBX1 := Aside0.mk (blk_drew HBX.out)
                have HBW1 := Aside0.mk (below_drew1 HBW.out)
                clear HBX HBW hcell0 hcell1
                refine start_ (n := 7) (S := fun w' => w'.cell? ⟨wr.heap.size, 0, none⟩ = some (.int .i64 2)) (ds := []) #[false, false, false, false, false, false, false] (by kernel_rfl) rfl rfl HS0.out (fun hHeld => ?_)
                refine with_tabW read10_tab read10_bits (fun HT_ HW_ => ?_)
                generalize w3.drew = w4 at HS0 HBX1 HBW1 hHeld ⊢
                refine pure_ (i := 0) (N := some 40) (v := ?_) (a' := ?_) #[true, false, false, false, false, false, false] rfl rfl (any_of HT_.out (by kernel_rfl)) (fun _ _ _ h => h) (Or.inl ⟨by rfl, ?_⟩) ?_ ?_
                rotate_left
                · intro w'
                  go_simp
                  with_reducible rfl
                rotate_left
                · simp only [Act.put, List.setIfInBounds_toArray, List.set_cons_zero, List.set_cons_succ, i64_w, i32_w]
                  rfl
                refine pure_ (i := 2) (N := some 42) (v := ?_) (a' := ?_) #[true, false, true, false, false, false, false] rfl rfl (any_of HT_.out (by kernel_rfl)) (fun _ _ _ h => h) (Or.inl ⟨by rfl, ?_⟩) ?_ ?_
                rotate_left
                · intro w'
                  go_simp
                  with_reducible rfl
                rotate_left
                · simp only [Act.put, List.setIfInBounds_toArray, List.set_cons_zero, List.set_cons_succ, i64_w, i32_w]
                  rfl
                refine pure_ (i := 3) (N := some 43) (v := ?_) (a' := ?_) #[true, false, true, true, false, false, false] rfl rfl (any_of HT_.out (by kernel_rfl)) (fun _ _ _ h => h) (Or.inl ⟨by rfl, ?_⟩) ?_ ?_
                rotate_left
                · intro w'
                  go_simp
                  with_reducible rfl
                rotate_left
                · simp only [Act.put, List.setIfInBounds_toArray, List.set_cons_zero, List.set_cons_succ, i64_w, i32_w]
                  rfl
                refine pure_ (i := 4) (N := some 44) (v := ?_) (a' := ?_) #[true, false, true, true, true, false, false] rfl rfl (any_of HT_.out (by kernel_rfl)) (fun _ _ _ h => h) (Or.inl ⟨by rfl, ?_⟩) ?_ ?_
                rotate_left
                · intro w'
                  go_simp
                  with_reducible rfl
                rotate_left
                · simp only [Act.put, List.setIfInBounds_toArray, List.set_cons_zero, List.set_cons_succ, i64_w, i32_w]
                  rfl
                refine take_ (i := 1) (N := some 41) (v := ?_) (a' := ?_) #[true, true, true, true, true, false, false] rfl rfl (take_ofW HT_.out HW_.out (by kernel_rfl)) (fun _ _ _ h => h) (Or.inl ⟨by rfl, ?_⟩) hHeld ?_ ?_
                rotate_left
                · rintro w' s0
                  go_simp
                  with_reducible rfl
                rotate_left
                · simp only [Act.put, List.setIfInBounds_toArray, List.set_cons_zero, List.set_cons_succ, i64_w, i32_w]
                  rfl
                refine one_ (i := 5) (N := some 45) #[true, true, true, true, true, true, false] rfl rfl (one_of HT_.out (by kernel_rfl)) (by decide) (fun K hK => ?_)
                refine goes_ Tryd.func50 (by kernel_rfl) rfl #[.int .i64 (j : Int), .int .i64 (l.length : Int)] (by rfl) rfl rfl (by simp only [List.map_toArray, List.map_cons, List.map_nil]; rfl) ?_
                with_reducible refine (flow_kind.calls (j : Int) (l.length : Int) _ w4 HKD.out).mono ?_
                rintro e w5 ⟨rfl, ⟨m1, rfl⟩⟩
                refine ⟨_, rfl, ?_⟩
                refine hK.out _ _ hHeld (fun hHeld => ?_)
                clear hK K
                refine norm_ (a' := ?_) ?_ ?_
                rotate_left
                · show Act.put _ (some 45) _ = _
                  simp only [Act.put, List.setIfInBounds_toArray, List.set_cons_zero, List.set_cons_succ, i64_w, i32_w]
                  rfl
                refine pure_ (i := 6) (N := some 46) (v := ?_) (a' := ?_) #[true, true, true, true, true, true, true] rfl rfl (any_of HT_.out (by kernel_rfl)) (fun _ _ _ h => h) (Or.inl ⟨by rfl, ?_⟩) ?_ ?_
                rotate_left
                · intro w'
                  go_simp
                  with_reducible rfl
                rotate_left
                · simp only [Act.put, List.setIfInBounds_toArray, List.set_cons_zero, List.set_cons_succ, i64_w, i32_w]
                  rfl
                refine done_ (done_of HT_.out (by kernel_rfl)) ?_
                have HBX2 := Aside0.mk (blk_drewN HBX1.out m1)
                have HBW2 := Aside0.mk (pw_below_drewN HBW1.out m1)
                clear HBX1 HBW1 HS0 hHeld
                generalize w4.drewN m1 = w5 at HBX2 HBW2 ⊢
                have HI5 : Aside0 (rdI g w2.heap.size many base ps w2 w5) := ⟨rdI_below HI.out HBW2.out (by obtain ⟨_, _, hg_, _, _, _⟩ := HI.out; exact Nat.le_of_lt (blk_lt hg_))⟩
                have HWY : Aside0 (w5.heap[w1.heap.size]? = some (.cells #[.nilFunc, .func (.func 47) #[.pointer (some ⟨g, 0, none⟩)] #[], .func (.func 48) #[.pointer (some ⟨g, 0, none⟩)] #[], .func (.func 49) #[.pointer (some ⟨g, 0, none⟩)] #[]] 90 (0, 0))) := ⟨by obtain ⟨_, _, _, _, hK_, _⟩ := HI5.out; exact hK_.blk HW.out HNG.out (by simp)⟩
                have HS1 : Aside0 (w5.drew.cell? ⟨wr.heap.size, 0, none⟩ = some (.int .i64 2) ∧ w5.drew.cell? ⟨wr.heap.size, 1, none⟩ = some (.slice A1 x1.length c1) ∧ w5.drew.cell? ⟨w1.heap.size, 2, none⟩ = some (.func (.func 48) #[.pointer (some ⟨g, 0, none⟩)] #[])) := ⟨(blk_cell (blk_drew HBX2.out) 0).trans rfl, (blk_cell (blk_drew HBX2.out) 1).trans rfl, (blk_cell (blk_drew HWY.out) 2).trans rfl⟩
                have HI6 : Aside0 (rdI g w2.heap.size many base ps w2 w5.drew) := ⟨rdI_below HI5.out (below_drew1 (Below.refl _ _)) (by obtain ⟨_, _, hg_, _, _, _⟩ := HI5.out; exact Nat.le_of_lt (blk_lt hg_))⟩
                have HCX6 := Aside0.mk (Kd.C_drew (Kd.C_below HCX.out HBW2.out))
                go_upto_region 12 with (fail)
                refine start_ (n := 8) (S := fun w' => w'.cell? ⟨wr.heap.size, 0, none⟩ = some (.int .i64 2) ∧ w'.cell? ⟨wr.heap.size, 1, none⟩ = some (.slice A1 x1.length c1) ∧ w'.cell? ⟨w1.heap.size, 2, none⟩ = some (.func (.func 48) #[.pointer (some ⟨g, 0, none⟩)] #[])) (ds := [6]) #[false, false, false, false, false, false, false, false] (by kernel_rfl) rfl rfl HS1.out (fun hHeld => ?_)
                refine with_tabW read12_tab read12_bits (fun HT_ HW_ => ?_)
                generalize w5.drew = w6 at HS1 HI6 HCX6 hHeld ⊢
                clear HWY HBX2 HBW2 HI5 HCX HI
                refine pure_ (i := 0) (N := some 49) (v := ?_) (a' := ?_) #[true, false, false, false, false, false, false, false] rfl rfl (any_of HT_.out (by kernel_rfl)) (fun _ _ _ h => h) (Or.inl ⟨by rfl, ?_⟩) ?_ ?_
                rotate_left
                · intro w'
                  go_simp
                  with_reducible rfl
                rotate_left
                · simp only [Act.put, List.setIfInBounds_toArray, List.set_cons_zero, List.set_cons_succ, i64_w, i32_w]
                  rfl
                refine pure_ (i := 4) (N := some 53) (v := ?_) (a' := ?_) #[true, false, false, false, true, false, false, false] rfl rfl (any_of HT_.out (by kernel_rfl)) (fun _ _ _ h => h) (Or.inl ⟨by rfl, ?_⟩) ?_ ?_
                rotate_left
                · intro w'
                  go_simp
                  with_reducible rfl
                rotate_left
                · simp only [Act.put, List.setIfInBounds_toArray, List.set_cons_zero, List.set_cons_succ, i64_w, i32_w]
                  rfl
                refine take_ (i := 1) (N := some 50) (v := ?_) (a' := ?_) #[true, true, false, false, true, false, false, false] rfl rfl (take_ofW HT_.out HW_.out (by kernel_rfl)) (fun _ _ _ h => h) (Or.inl ⟨by rfl, ?_⟩) hHeld ?_ ?_
                rotate_left
                · rintro w' ⟨s0, s1, s2⟩
                  go_simp
                  with_reducible rfl
                rotate_left
                · simp only [Act.put, List.setIfInBounds_toArray, List.set_cons_zero, List.set_cons_succ, i64_w, i32_w]
                  rfl
                refine take_ (i := 5) (N := some 54) (v := ?_) (a' := ?_) #[true, true, false, false, true, true, false, false] rfl rfl (take_ofW HT_.out HW_.out (by kernel_rfl)) (fun _ _ _ h => h) (Or.inl ⟨by rfl, ?_⟩) hHeld ?_ ?_
                rotate_left
                · rintro w' ⟨s0, s1, s2⟩
                  go_simp
                  with_reducible rfl
                rotate_left
                · simp only [Act.put, List.setIfInBounds_toArray, List.set_cons_zero, List.set_cons_succ, i64_w, i32_w]
                  rfl
                refine pure_ (i := 2) (N := some 51) (v := ?_) (a' := ?_) #[true, true, true, false, true, true, false, false] rfl rfl (any_of HT_.out (by kernel_rfl)) (fun _ _ _ h => h) (Or.inl ⟨by rfl, ?_⟩) ?_ ?_
                rotate_left
                · intro w'
                  go_simp
                  with_reducible rfl
                rotate_left
                · simp only [Act.put, List.setIfInBounds_toArray, List.set_cons_zero, List.set_cons_succ, i64_w, i32_w]
                  rfl
                refine take_ (i := 3) (N := some 52) (v := ?_) (a' := ?_) #[true, true, true, true, true, true, false, false] rfl rfl (take_ofW HT_.out HW_.out (by kernel_rfl)) (fun _ _ _ h => h) (Or.inl ⟨by rfl, ?_⟩) hHeld ?_ ?_
                rotate_left
                · rintro w' ⟨s0, s1, s2⟩
                  go_simp
                  with_reducible rfl
                rotate_left
                · simp only [Act.put, List.setIfInBounds_toArray, List.set_cons_zero, List.set_cons_succ, i64_w, i32_w]
                  rfl
                refine last_ (i := 6) (N := some 55) #[true, true, true, true, true, true, true, false] rfl rfl (one_of HT_.out (by kernel_rfl)) (by decide) (fun K hK => ?_)
                refine goesC_ Tryd.func48 (by kernel_rfl) rfl #[.pointer (some ⟨g, 0, none⟩), .slice A1 x1.length c1] (by rfl) rfl rfl rfl (by simp only [List.map_toArray, List.map_cons, List.map_nil]; rfl) ?_
                with_reducible refine (way_part k g w2.heap.size A1 c1 x1 many base ps w2 w6 q rfl HGF.out HCX6.out HLE.out HI6.out HQ.out).mono ?_
                rintro e w7 (⟨rfl, rfl, hk7, hb7⟩ | ⟨m', b', p', rfl, rfl, hi7⟩)
                · have hL := HLL.out
                  obtain rfl := Option.some.inj hL
                  have HK7 := Aside0.mk hk7
                  have HB7 := Aside0.mk hb7
                  clear hL hk7 hb7
                  refine ⟨_, rfl, ?_⟩
                  refine hK.out _ _ ?_
                  clear hK K HLL
                  refine norm_ (a' := ?_) ?_ ?_
                  rotate_left
                  · show Act.put _ (some 55) _ = _
                    simp only [Act.put, List.setIfInBounds_toArray, List.set_cons_zero, List.set_cons_succ, i64_w, i32_w]
                    rfl
                  refine pure_ (i := 7) (N := some 10) (v := ?_) (a' := ?_) #[true, true, true, true, true, true, true, true] rfl rfl (any_of HT_.out (by kernel_rfl)) (fun _ _ _ h => h) (Or.inl ⟨by rfl, ?_⟩) ?_ ?_
                  rotate_left
                  · intro w'
                    go_simp
                    with_reducible rfl
                  rotate_left
                  · simp only [Act.put, List.setIfInBounds_toArray, List.set_cons_zero, List.set_cons_succ, i64_w, i32_w]
                    rfl
                  refine done_ (done_of HT_.out (by kernel_rfl)) ?_
                  clear HS1 hHeld
                  go_wp2
                  go_ret
                  exact ⟨by rw [H_four H.out]; first | rfl | trivial, post_four HB2.out HGL.out HK7.out HB7.out H.out⟩
                · refine ⟨_, rfl, ?_⟩
                  have HI7 := Aside0.mk hi7
                  have HL7 : Aside0 (readL k l.length (j + 1) m' b' p' (l.drop (j + 1)) = some s) := ⟨HLL.out⟩
                  refine hK.out _ _ ?_
                  clear hK K HLL hi7
                  refine norm_ (a' := ?_) ?_ ?_
                  rotate_left
                  · show Act.put _ (some 55) _ = _
                    simp only [Act.put, List.setIfInBounds_toArray, List.set_cons_zero, List.set_cons_succ, i64_w, i32_w]
                    rfl
                  refine pure_ (i := 7) (N := some 10) (v := ?_) (a' := ?_) #[true, true, true, true, true, true, true, true] rfl rfl (any_of HT_.out (by kernel_rfl)) (fun _ _ _ h => h) (Or.inl ⟨by rfl, ?_⟩) ?_ ?_
                  rotate_left
                  · intro w'
                    go_simp
                    with_reducible rfl
                  rotate_left
                  · simp only [Act.put, List.setIfInBounds_toArray, List.set_cons_zero, List.set_cons_succ, i64_w, i32_w]
                    rfl
                  refine done_ (done_of HT_.out (by kernel_rfl)) ?_
                  clear HS1 hHeld
                  go_wp2
                  go_roundw
                  case rel => exact ⟨j + 1, m', b', p', HLT.out, by rw [hk1]; rfl, HL7, HI7⟩
                  case measure => rw [hk1]; have := HLT.out; simp; omega
              · go_upto_region 10 with (fail)
                obtain ⟨w3, hw⟩ : ∃ w3, w3 = wr.alloc (.cells #[.int .i64 3, .slice A1 x1.length c1] 50) := ⟨_, rfl⟩
                rw [← hw]
                obtain ⟨hw1, hw2⟩ := box_is _ _ _ _ _ hw
                have HBX := Aside0.mk hw1
                have HBW := Aside0.mk hw2
                clear hw hw1 hw2
                have HS0 : Aside0 (w3.drew.cell? ⟨wr.heap.size, 0, none⟩ = some (.int .i64 3)) := ⟨(blk_cell (blk_drew HBX.out) 0).trans rfl⟩
                have HBX1 := Aside0.mk (blk_drew HBX.out)
                have HBW1 := Aside0.mk (below_drew1 HBW.out)
                clear HBX HBW hcell0 hcell1
                refine start_ (n := 7) (S := fun w' => w'.cell? ⟨wr.heap.size, 0, none⟩ = some (.int .i64 3)) (ds := []) #[false, false, false, false, false, false, false] (by kernel_rfl) rfl rfl HS0.out (fun hHeld => ?_)
                refine with_tabW read10_tab read10_bits (fun HT_ HW_ => ?_)
                generalize w3.drew = w4 at HS0 HBX1 HBW1 hHeld ⊢
                refine pure_ (i := 0) (N := some 40) (v := ?_) (a' := ?_) #[true, false, false, false, false, false, false] rfl rfl (any_of HT_.out (by kernel_rfl)) (fun _ _ _ h => h) (Or.inl ⟨by rfl, ?_⟩) ?_ ?_
                rotate_left
                · intro w'
                  go_simp
                  with_reducible rfl
                rotate_left
                · simp only [Act.put, List.setIfInBounds_toArray, List.set_cons_zero, List.set_cons_succ, i64_w, i32_w]
                  rfl
                refine pure_ (i := 2) (N := some 42) (v := ?_) (a' := ?_) #[true, false, true, false, false, false, false] rfl rfl (any_of HT_.out (by kernel_rfl)) (fun _ _ _ h => h) (Or.inl ⟨by rfl, ?_⟩) ?_ ?_
                rotate_left
                · intro w'
                  go_simp
                  with_reducible rfl
                rotate_left
                · simp only [Act.put, List.setIfInBounds_toArray, List.set_cons_zero, List.set_cons_succ, i64_w, i32_w]
                  rfl
                refine pure_ (i := 3) (N := some 43) (v := ?_) (a' := ?_) #[true, false, true, true, false, false, false] rfl rfl (any_of HT_.out (by kernel_rfl)) (fun _ _ _ h => h) (Or.inl ⟨by rfl, ?_⟩) ?_ ?_
                rotate_left
                · intro w'
                  go_simp
                  with_reducible rfl
                rotate_left
                · simp only [Act.put, List.setIfInBounds_toArray, List.set_cons_zero, List.set_cons_succ, i64_w, i32_w]
                  rfl
                refine pure_ (i := 4) (N := some 44) (v := ?_) (a' := ?_) #[true, false, true, true, true, false, false] rfl rfl (any_of HT_.out (by kernel_rfl)) (fun _ _ _ h => h) (Or.inl ⟨by rfl, ?_⟩) ?_ ?_
                rotate_left
                · intro w'
                  go_simp
                  with_reducible rfl
                rotate_left
                · simp only [Act.put, List.setIfInBounds_toArray, List.set_cons_zero, List.set_cons_succ, i64_w, i32_w]
                  rfl
                refine take_ (i := 1) (N := some 41) (v := ?_) (a' := ?_) #[true, true, true, true, true, false, false] rfl rfl (take_ofW HT_.out HW_.out (by kernel_rfl)) (fun _ _ _ h => h) (Or.inl ⟨by rfl, ?_⟩) hHeld ?_ ?_
                rotate_left
                · rintro w' s0
                  go_simp
                  with_reducible rfl
                rotate_left
                · simp only [Act.put, List.setIfInBounds_toArray, List.set_cons_zero, List.set_cons_succ, i64_w, i32_w]
                  rfl
                refine one_ (i := 5) (N := some 45) #[true, true, true, true, true, true, false] rfl rfl (one_of HT_.out (by kernel_rfl)) (by decide) (fun K hK => ?_)
                refine goes_ Tryd.func50 (by kernel_rfl) rfl #[.int .i64 (j : Int), .int .i64 (l.length : Int)] (by rfl) rfl rfl (by simp only [List.map_toArray, List.map_cons, List.map_nil]; rfl) ?_
                with_reducible refine (flow_kind.calls (j : Int) (l.length : Int) _ w4 HKD.out).mono ?_
                rintro e w5 ⟨rfl, ⟨m1, rfl⟩⟩
                refine ⟨_, rfl, ?_⟩
                refine hK.out _ _ hHeld (fun hHeld => ?_)
                clear hK K
                refine norm_ (a' := ?_) ?_ ?_
                rotate_left
                · show Act.put _ (some 45) _ = _
                  simp only [Act.put, List.setIfInBounds_toArray, List.set_cons_zero, List.set_cons_succ, i64_w, i32_w]
                  rfl
                refine pure_ (i := 6) (N := some 46) (v := ?_) (a' := ?_) #[true, true, true, true, true, true, true] rfl rfl (any_of HT_.out (by kernel_rfl)) (fun _ _ _ h => h) (Or.inl ⟨by rfl, ?_⟩) ?_ ?_
                rotate_left
                · intro w'
                  go_simp
                  with_reducible rfl
                rotate_left
                · simp only [Act.put, List.setIfInBounds_toArray, List.set_cons_zero, List.set_cons_succ, i64_w, i32_w]
                  rfl
                refine done_ (done_of HT_.out (by kernel_rfl)) ?_
                have HBX2 := Aside0.mk (blk_drewN HBX1.out m1)
                have HBW2 := Aside0.mk (pw_below_drewN HBW1.out m1)
                clear HBX1 HBW1 HS0 hHeld
                generalize w4.drewN m1 = w5 at HBX2 HBW2 ⊢
                have HI5 : Aside0 (rdI g w2.heap.size many base ps w2 w5) := ⟨rdI_below HI.out HBW2.out (by obtain ⟨_, _, hg_, _, _, _⟩ := HI.out; exact Nat.le_of_lt (blk_lt hg_))⟩
                have HWY : Aside0 (w5.heap[w1.heap.size]? = some (.cells #[.nilFunc, .func (.func 47) #[.pointer (some ⟨g, 0, none⟩)] #[], .func (.func 48) #[.pointer (some ⟨g, 0, none⟩)] #[], .func (.func 49) #[.pointer (some ⟨g, 0, none⟩)] #[]] 90 (0, 0))) := ⟨by obtain ⟨_, _, _, _, hK_, _⟩ := HI5.out; exact hK_.blk HW.out HNG.out (by simp)⟩
                have HS1 : Aside0 (w5.drew.cell? ⟨wr.heap.size, 0, none⟩ = some (.int .i64 3) ∧ w5.drew.cell? ⟨wr.heap.size, 1, none⟩ = some (.slice A1 x1.length c1) ∧ w5.drew.cell? ⟨w1.heap.size, 3, none⟩ = some (.func (.func 49) #[.pointer (some ⟨g, 0, none⟩)] #[])) := ⟨(blk_cell (blk_drew HBX2.out) 0).trans rfl, (blk_cell (blk_drew HBX2.out) 1).trans rfl, (blk_cell (blk_drew HWY.out) 3).trans rfl⟩
                have HI6 : Aside0 (rdI g w2.heap.size many base ps w2 w5.drew) := ⟨rdI_below HI5.out (below_drew1 (Below.refl _ _)) (by obtain ⟨_, _, hg_, _, _, _⟩ := HI5.out; exact Nat.le_of_lt (blk_lt hg_))⟩
                have HCX6 := Aside0.mk (Kd.C_drew (Kd.C_below HCX.out HBW2.out))
                go_upto_region 12 with (fail)
                refine start_ (n := 8) (S := fun w' => w'.cell? ⟨wr.heap.size, 0, none⟩ = some (.int .i64 3) ∧ w'.cell? ⟨wr.heap.size, 1, none⟩ = some (.slice A1 x1.length c1) ∧ w'.cell? ⟨w1.heap.size, 3, none⟩ = some (.func (.func 49) #[.pointer (some ⟨g, 0, none⟩)] #[])) (ds := [6]) #[false, false, false, false, false, false, false, false] (by kernel_rfl) rfl rfl HS1.out (fun hHeld => ?_)
                refine with_tabW read12_tab read12_bits (fun HT_ HW_ => ?_)
                generalize w5.drew = w6 at HS1 HI6 HCX6 hHeld ⊢
                clear HWY HBX2 HBW2 HI5 HCX HI
                refine pure_ (i := 0) (N := some 49) (v := ?_) (a' := ?_) #[true, false, false, false, false, false, false, false] rfl rfl (any_of HT_.out (by kernel_rfl)) (fun _ _ _ h => h) (Or.inl ⟨by rfl, ?_⟩) ?_ ?_
                rotate_left
                · intro w'
                  go_simp
                  with_reducible rfl
                rotate_left
                · simp only [Act.put, List.setIfInBounds_toArray, List.set_cons_zero, List.set_cons_succ, i64_w, i32_w]
                  rfl
                refine pure_ (i := 4) (N := some 53) (v := ?_) (a' := ?_) #[true, false, false, false, true, false, false, false] rfl rfl (any_of HT_.out (by kernel_rfl)) (fun _ _ _ h => h) (Or.inl ⟨by rfl, ?_⟩) ?_ ?_
                rotate_left
                · intro w'
                  go_simp
                  with_reducible rfl
                rotate_left
                · simp only [Act.put, List.setIfInBounds_toArray, List.set_cons_zero, List.set_cons_succ, i64_w, i32_w]
                  rfl
                refine take_ (i := 1) (N := some 50) (v := ?_) (a' := ?_) #[true, true, false, false, true, false, false, false] rfl rfl (take_ofW HT_.out HW_.out (by kernel_rfl)) (fun _ _ _ h => h) (Or.inl ⟨by rfl, ?_⟩) hHeld ?_ ?_
                rotate_left
                · rintro w' ⟨s0, s1, s2⟩
                  go_simp
                  with_reducible rfl
                rotate_left
                · simp only [Act.put, List.setIfInBounds_toArray, List.set_cons_zero, List.set_cons_succ, i64_w, i32_w]
                  rfl
                refine take_ (i := 5) (N := some 54) (v := ?_) (a' := ?_) #[true, true, false, false, true, true, false, false] rfl rfl (take_ofW HT_.out HW_.out (by kernel_rfl)) (fun _ _ _ h => h) (Or.inl ⟨by rfl, ?_⟩) hHeld ?_ ?_
                rotate_left
                · rintro w' ⟨s0, s1, s2⟩
                  go_simp
                  with_reducible rfl
                rotate_left
                · simp only [Act.put, List.setIfInBounds_toArray, List.set_cons_zero, List.set_cons_succ, i64_w, i32_w]
                  rfl
                refine pure_ (i := 2) (N := some 51) (v := ?_) (a' := ?_) #[true, true, true, false, true, true, false, false] rfl rfl (any_of HT_.out (by kernel_rfl)) (fun _ _ _ h => h) (Or.inl ⟨by rfl, ?_⟩) ?_ ?_
                rotate_left
                · intro w'
                  go_simp
                  with_reducible rfl
                rotate_left
                · simp only [Act.put, List.setIfInBounds_toArray, List.set_cons_zero, List.set_cons_succ, i64_w, i32_w]
                  rfl
                refine take_ (i := 3) (N := some 52) (v := ?_) (a' := ?_) #[true, true, true, true, true, true, false, false] rfl rfl (take_ofW HT_.out HW_.out (by kernel_rfl)) (fun _ _ _ h => h) (Or.inl ⟨by rfl, ?_⟩) hHeld ?_ ?_
                rotate_left
                · rintro w' ⟨s0, s1, s2⟩
                  go_simp
                  with_reducible rfl
                rotate_left
                · simp only [Act.put, List.setIfInBounds_toArray, List.set_cons_zero, List.set_cons_succ, i64_w, i32_w]
                  rfl
                refine last_ (i := 6) (N := some 55) #[true, true, true, true, true, true, true, false] rfl rfl (one_of HT_.out (by kernel_rfl)) (by decide) (fun K hK => ?_)
                refine goesC_ Tryd.func49 (by kernel_rfl) rfl #[.pointer (some ⟨g, 0, none⟩), .slice A1 x1.length c1] (by rfl) rfl rfl rfl (by simp only [List.map_toArray, List.map_cons, List.map_nil]; rfl) ?_
                with_reducible refine (way_tail k g w2.heap.size A1 c1 x1 many base ps w2 w6 q rfl HGF.out HCX6.out HLE.out HI6.out HQ.out).mono ?_
                rintro e w7 (⟨rfl, rfl, hk7, hb7⟩ | ⟨m', b', p', rfl, rfl, hi7⟩)
                · have hL := HLL.out
                  obtain rfl := Option.some.inj hL
                  have HK7 := Aside0.mk hk7
                  have HB7 := Aside0.mk hb7
                  clear hL hk7 hb7
                  refine ⟨_, rfl, ?_⟩
                  refine hK.out _ _ ?_
                  clear hK K HLL
                  refine norm_ (a' := ?_) ?_ ?_
                  rotate_left
                  · show Act.put _ (some 55) _ = _
                    simp only [Act.put, List.setIfInBounds_toArray, List.set_cons_zero, List.set_cons_succ, i64_w, i32_w]
                    rfl
                  refine pure_ (i := 7) (N := some 10) (v := ?_) (a' := ?_) #[true, true, true, true, true, true, true, true] rfl rfl (any_of HT_.out (by kernel_rfl)) (fun _ _ _ h => h) (Or.inl ⟨by rfl, ?_⟩) ?_ ?_
                  rotate_left
                  · intro w'
                    go_simp
                    with_reducible rfl
                  rotate_left
                  · simp only [Act.put, List.setIfInBounds_toArray, List.set_cons_zero, List.set_cons_succ, i64_w, i32_w]
                    rfl
                  refine done_ (done_of HT_.out (by kernel_rfl)) ?_
                  clear HS1 hHeld
                  go_wp2
                  go_ret
                  exact ⟨by rw [H_four H.out]; first | rfl | trivial, post_four HB2.out HGL.out HK7.out HB7.out H.out⟩
                · refine ⟨_, rfl, ?_⟩
                  have HI7 := Aside0.mk hi7
                  have HL7 : Aside0 (readL k l.length (j + 1) m' b' p' (l.drop (j + 1)) = some s) := ⟨HLL.out⟩
                  refine hK.out _ _ ?_
                  clear hK K HLL hi7
                  refine norm_ (a' := ?_) ?_ ?_
                  rotate_left
                  · show Act.put _ (some 55) _ = _
                    simp only [Act.put, List.setIfInBounds_toArray, List.set_cons_zero, List.set_cons_succ, i64_w, i32_w]
                    rfl
                  refine pure_ (i := 7) (N := some 10) (v := ?_) (a' := ?_) #[true, true, true, true, true, true, true, true] rfl rfl (any_of HT_.out (by kernel_rfl)) (fun _ _ _ h => h) (Or.inl ⟨by rfl, ?_⟩) ?_ ?_
                  rotate_left
                  · intro w'
                    go_simp
                    with_reducible rfl
                  rotate_left
                  · simp only [Act.put, List.setIfInBounds_toArray, List.set_cons_zero, List.set_cons_succ, i64_w, i32_w]
                    rfl
                  refine done_ (done_of HT_.out (by kernel_rfl)) ?_
                  clear HS1 hHeld
                  go_wp2
                  go_roundw
                  case rel => exact ⟨j + 1, m', b', p', HLT.out, by rw [hk1]; rfl, HL7, HI7⟩
                  case measure => rw [hk1]; have := HLT.out; simp; omega
            · rw [if_neg cc] at hL
              obtain rfl := Option.some.inj hL
              have ec : (x0 != c) = true := bne_iff_ne.mpr cc
              clear hL cc
              go_upto_region 10 with (fail)
              obtain ⟨w3, hw⟩ : ∃ w3, w3 = wr.alloc (.cells #[.int .i64 x0, .slice A1 x1.length c1] 50) := ⟨_, rfl⟩
              rw [← hw]
              obtain ⟨hw1, hw2⟩ := box_is _ _ _ _ _ hw
              have HBX := Aside0.mk hw1
              have HBW := Aside0.mk hw2
              clear hw hw1 hw2
              have HS0 : Aside0 (w3.drew.cell? ⟨wr.heap.size, 0, none⟩ = some (.int .i64 x0)) := ⟨(blk_cell (blk_drew HBX.out) 0).trans rfl⟩
              have HBX1 := Aside0.mk (blk_drew HBX.out)
              have HBW1 := Aside0.mk (below_drew1 HBW.out)
              clear HBX HBW hcell0 hcell1
              refine start_ (n := 7) (S := fun w' => w'.cell? ⟨wr.heap.size, 0, none⟩ = some (.int .i64 x0)) (ds := []) #[false, false, false, false, false, false, false] (by kernel_rfl) rfl rfl HS0.out (fun hHeld => ?_)
              refine with_tabW read10_tab read10_bits (fun HT_ HW_ => ?_)
              generalize w3.drew = w4 at HS0 HBX1 HBW1 hHeld ⊢
              refine pure_ (i := 0) (N := some 40) (v := ?_) (a' := ?_) #[true, false, false, false, false, false, false] rfl rfl (any_of HT_.out (by kernel_rfl)) (fun _ _ _ h => h) (Or.inl ⟨by rfl, ?_⟩) ?_ ?_
              rotate_left
              · intro w'
                go_simp
                with_reducible rfl
              rotate_left
              · simp only [Act.put, List.setIfInBounds_toArray, List.set_cons_zero, List.set_cons_succ, i64_w, i32_w]
                rfl
              refine pure_ (i := 2) (N := some 42) (v := ?_) (a' := ?_) #[true, false, true, false, false, false, false] rfl rfl (any_of HT_.out (by kernel_rfl)) (fun _ _ _ h => h) (Or.inl ⟨by rfl, ?_⟩) ?_ ?_
              rotate_left
              · intro w'
                go_simp
                with_reducible rfl
              rotate_left
              · simp only [Act.put, List.setIfInBounds_toArray, List.set_cons_zero, List.set_cons_succ, i64_w, i32_w]
                rfl
              refine pure_ (i := 3) (N := some 43) (v := ?_) (a' := ?_) #[true, false, true, true, false, false, false] rfl rfl (any_of HT_.out (by kernel_rfl)) (fun _ _ _ h => h) (Or.inl ⟨by rfl, ?_⟩) ?_ ?_
              rotate_left
              · intro w'
                go_simp
                with_reducible rfl
              rotate_left
              · simp only [Act.put, List.setIfInBounds_toArray, List.set_cons_zero, List.set_cons_succ, i64_w, i32_w]
                rfl
              refine pure_ (i := 4) (N := some 44) (v := ?_) (a' := ?_) #[true, false, true, true, true, false, false] rfl rfl (any_of HT_.out (by kernel_rfl)) (fun _ _ _ h => h) (Or.inl ⟨by rfl, ?_⟩) ?_ ?_
              rotate_left
              · intro w'
                go_simp
                with_reducible rfl
              rotate_left
              · simp only [Act.put, List.setIfInBounds_toArray, List.set_cons_zero, List.set_cons_succ, i64_w, i32_w]
                rfl
              refine take_ (i := 1) (N := some 41) (v := ?_) (a' := ?_) #[true, true, true, true, true, false, false] rfl rfl (take_ofW HT_.out HW_.out (by kernel_rfl)) (fun _ _ _ h => h) (Or.inl ⟨by rfl, ?_⟩) hHeld ?_ ?_
              rotate_left
              · rintro w' s0
                go_simp
                with_reducible rfl
              rotate_left
              · simp only [Act.put, List.setIfInBounds_toArray, List.set_cons_zero, List.set_cons_succ, i64_w, i32_w]
                rfl
              refine one_ (i := 5) (N := some 45) #[true, true, true, true, true, true, false] rfl rfl (one_of HT_.out (by kernel_rfl)) (by decide) (fun K hK => ?_)
              refine goes_ Tryd.func50 (by kernel_rfl) rfl #[.int .i64 (j : Int), .int .i64 (l.length : Int)] (by rfl) rfl rfl (by simp only [List.map_toArray, List.map_cons, List.map_nil]; rfl) ?_
              with_reducible refine (flow_kind.calls (j : Int) (l.length : Int) _ w4 HKD.out).mono ?_
              rintro e w5 ⟨rfl, ⟨m1, rfl⟩⟩
              refine ⟨_, rfl, ?_⟩
              refine hK.out _ _ hHeld (fun hHeld => ?_)
              clear hK K
              refine norm_ (a' := ?_) ?_ ?_
              rotate_left
              · show Act.put _ (some 45) _ = _
                simp only [Act.put, List.setIfInBounds_toArray, List.set_cons_zero, List.set_cons_succ, i64_w, i32_w]
                rfl
              refine pure_ (i := 6) (N := some 46) (v := ?_) (a' := ?_) #[true, true, true, true, true, true, true] rfl rfl (any_of HT_.out (by kernel_rfl)) (fun _ _ _ h => h) (Or.inl ⟨by rfl, ?_⟩) ?_ ?_
              rotate_left
              · intro w'
                go_simp
                with_reducible rfl
              rotate_left
              · simp only [Act.put, List.setIfInBounds_toArray, List.set_cons_zero, List.set_cons_succ, i64_w, i32_w]
                rfl
              refine done_ (done_of HT_.out (by kernel_rfl)) ?_
              have HBX2 := Aside0.mk (blk_drewN HBX1.out m1)
              have HBW2 := Aside0.mk (pw_below_drewN HBW1.out m1)
              clear HBX1 HBW1 HS0 hHeld
              generalize w4.drewN m1 = w5 at HBX2 HBW2 ⊢
              have HI5 : Aside0 (rdI g w2.heap.size many base ps w2 w5) := ⟨rdI_below HI.out HBW2.out (by obtain ⟨_, _, hg_, _, _, _⟩ := HI.out; exact Nat.le_of_lt (blk_lt hg_))⟩
              go_wp2
              go_ret
              exact ⟨by rw [H_four H.out]; first | rfl | trivial, by obtain ⟨_, _, _, _, hK_, hB_⟩ := HI5.out; exact post_four HB2.out HGL.out hK_ hB_ H.out⟩
          · have hb : decide ((j : Int) < (l.length : Int)) = false := decide_eq_false (by omega)
            have hb2 : decide (j < l.length) = false := decide_eq_false (by omega)
            have hL := HL.out
            rw [readL_end _ _ _ _ _ _ _ (by omega)] at hL
            obtain rfl := Option.some.inj hL
            obtain ⟨Ap, cp, hG_, hS_, hK_, hB_⟩ := HI.out
            have HSS := Aside0.mk hS_
            have HGG := Aside0.mk hG_
            have HKK := Aside0.mk hK_
            have HBB := Aside0.mk hB_
            have hcg1 : wr.cell? ⟨g, 1, none⟩ = some (.int .u32 base) := (blk_cell hG_ 1).trans rfl
            have hcg2 : wr.cell? ⟨g, 2, none⟩ = some (.slice Ap ps.length cp) := (blk_cell hG_ 2).trans rfl
            obtain ⟨m, hm, hH⟩ := end_may H.out
            have HM := Aside0.mk hm
            have HH := Aside0.mk hH
            clear hlt hj hL HI HL hS_ hG_ hK_ hB_ hm hH
            cases m
            · go_wp2_with (go_at_call 21; with_reducible refine (flow_May.calls base Ap cp ps false wr (Kd.S_reads' HSS.out).2.2 (Kd.S_reads' HSS.out).2.1 HM.out).mono ?_; rintro e w3 ⟨rfl, hb3⟩; have HB3 := Aside0.mk hb3; clear hb3)
              go_ret
              exact ⟨by rw [H_bad HH.out]; first | rfl | trivial, post_bad HB2.out HGL.out (HKK.out.trans (KeepBut.of_below HB3.out g none) (.inl rfl)) (below_then HBB.out (Nat.le_of_lt (blk_lt HGG.out)) HB3.out) HH.out⟩
            · go_wp2_with (go_at_call 21; with_reducible refine (flow_May.calls base Ap cp ps true wr (Kd.S_reads' HSS.out).2.2 (Kd.S_reads' HSS.out).2.1 HM.out).mono ?_; rintro e w3 ⟨rfl, hb3⟩; have HB3 := Aside0.mk hb3; clear hb3)
              go_ret
              exact ⟨by rw [H_good HH.out]; first | rfl | trivial, post_good HB2.out HGL.out (HKK.out.trans (KeepBut.of_below HB3.out g none) (.inl rfl)) (below_then HBB.out (Nat.le_of_lt (blk_lt HGG.out)) HB3.out) (blk_below HGG.out HB3.out) (Kd.S_below HSS.out HB3.out) HH.out⟩
      · rw [if_neg c3] at h
        exact absurd h (by simp)
  · rw [if_neg c1] at h
    simp only [Option.some.injEq, Prod.mk.injEq] at h
    obtain ⟨rfl, rfl, rfl⟩ := h
    have e1 : (er != 0) = true := bne_iff_ne.mpr c1
    have C1 := Aside0.mk c1
    clear c1
    go_enter Tryd.func30, Tryd.ntmps30
    go_wp2_with (go_at_call 24; with_reducible refine (frame_All.calls k A0 c0 l0 l er w HR.out HC.out HA.out).mono ?_; rintro e w1 ⟨v0, rfl, hs, hb⟩; obtain ⟨Af, cf, ef⟩ := Kd.S_slice hs; subst ef)
    go_ret
    exact ⟨by rw [errV_bad _ C1.out]; first | rfl | trivial, KeepBut.of_below hb g none, below_less hb (Nat.le_of_lt HGL.out), fun hh => absurd hh C1.out⟩

end Go.Proofs.YtknkncdlcoglpaaDoor.PFr
