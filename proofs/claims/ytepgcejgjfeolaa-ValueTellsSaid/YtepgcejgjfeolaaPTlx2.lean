-- Written by wip/tools/myprint.py, a program of the prover's own, over the kit's print; the contracts named 'HAND' there are typed by hand.
import Derived.Test.YtepgcejgjfeolaaPTlx0
namespace Go.Proofs.Ytepgcejgjfeolaa.PTl
open Go.RowKit Go.Proofs.YtepgcejgjfeolaaW.PrintWords Go.Proofs.YtepgcejgjfeolaaW.PrintLast Go.Proofs.YtepgcejgjfeolaaW.PrintMore
attribute [local go_sem] max2_int min2_int max_two min_two max_three min_three max_four min_four   -- for this text's walks alone
set_option linter.unusedVariables false
set_option linter.unusedSimpArgs false

/-! ### value_of: function 19 -/
theorem value_hide {p : Prop} (h : p) : Hid p := h
set_option maxHeartbeats 1000000 in
def ofV (k N : Int) (S : ByteArray) (R : Int) : Value :=
  if (0 ≤ k ∧ k ≤ 3) ∧ S.toList = [] ∧ R = 0 then .iface 3 (.int .i64 N)
  else if k = 4 ∧ N = 0 ∧ R = 0 then .iface 9 (.string S)
  else if k = 5 ∧ N = 0 ∧ S.toList = [] then .iface 45 (.int .i64 R)
  else .nilIface
theorem value_ret {a b : Value} (h : a = b) : Ending.returned a = .returned b := by rw [h]
theorem of_any (k N : Int) (S : ByteArray) (R : Int) (w : World) :
    Calls Try.prog 19 #[.int .i64 k, .agg #[.int .i64 N, .string S, .int .i64 R]] w fun e w' => e = .returned (ofV k N S R) ∧ Below w.heap.size w w' := by
  obtain ⟨v, hv⟩ : ∃ v, ofV k N S R = v := ⟨_, rfl⟩
  have hV := Aside0.mk hv
  rw [hv]
  clear hv
  go_enter Try.func19, Try.ntmps19
  go_wp2
  all_goals
    go_ret
    have hv := hV.out
    unfold ofV at hv
    refine ⟨value_ret ?_, by repeat (first | exact Below.refl _ _ | apply below_alloc)⟩
    rw [← hv]
    first | (simp_all; done) | (rw [if_neg (fun h => by omega), if_neg (fun h => by omega), if_neg (fun h => by omega)]; rfl)

/-! ### value_fits: function 20 -/
theorem ta_3_3 (N : Int) (w : World) : (Instr.typeAssert (.iface 3 (.int .i64 N)) 20 3 true).run Try.prog w = .ok (.tuple #[.int .i64 N, .bool true]) w := by kernel_rfl
theorem ta_3_9 (N : Int) (w : World) : (Instr.typeAssert (.iface 3 (.int .i64 N)) 20 9 true).run Try.prog w = .ok (.tuple #[.string ⟨#[]⟩, .bool false]) w := by kernel_rfl
theorem ta_3_45 (N : Int) (w : World) : (Instr.typeAssert (.iface 3 (.int .i64 N)) 20 45 true).run Try.prog w = .ok (.tuple #[.int .i64 0, .bool false]) w := by kernel_rfl
theorem ta_9_3 (S : ByteArray) (w : World) : (Instr.typeAssert (.iface 9 (.string S)) 20 3 true).run Try.prog w = .ok (.tuple #[.int .i64 0, .bool false]) w := by kernel_rfl
theorem ta_9_9 (S : ByteArray) (w : World) : (Instr.typeAssert (.iface 9 (.string S)) 20 9 true).run Try.prog w = .ok (.tuple #[.string S, .bool true]) w := by kernel_rfl
theorem ta_9_45 (S : ByteArray) (w : World) : (Instr.typeAssert (.iface 9 (.string S)) 20 45 true).run Try.prog w = .ok (.tuple #[.int .i64 0, .bool false]) w := by kernel_rfl
theorem ta_45_3 (R : Int) (w : World) : (Instr.typeAssert (.iface 45 (.int .i64 R)) 20 3 true).run Try.prog w = .ok (.tuple #[.int .i64 0, .bool false]) w := by kernel_rfl
theorem ta_45_9 (R : Int) (w : World) : (Instr.typeAssert (.iface 45 (.int .i64 R)) 20 9 true).run Try.prog w = .ok (.tuple #[.string ⟨#[]⟩, .bool false]) w := by kernel_rfl
theorem ta_45_45 (R : Int) (w : World) : (Instr.typeAssert (.iface 45 (.int .i64 R)) 20 45 true).run Try.prog w = .ok (.tuple #[.int .i64 R, .bool true]) w := by kernel_rfl
theorem ta_n_3 (w : World) : (Instr.typeAssert .nilIface 20 3 true).run Try.prog w = .ok (.tuple #[.int .i64 0, .bool false]) w := by kernel_rfl
theorem ta_n_9 (w : World) : (Instr.typeAssert .nilIface 20 9 true).run Try.prog w = .ok (.tuple #[.string ⟨#[]⟩, .bool false]) w := by kernel_rfl
theorem ta_n_45 (w : World) : (Instr.typeAssert .nilIface 20 45 true).run Try.prog w = .ok (.tuple #[.int .i64 0, .bool false]) w := by kernel_rfl
theorem ta_int (N : Int) (w : World) : (Instr.typeAssert (.iface 3 (.int .i64 N)) 20 3 false).run Try.prog w = .ok (.int .i64 N) w := by kernel_rfl
/-- does the number N lie in as many bits -/
def inBits (b : Nat) (N : Int) : Bool := N / 2 ^ b == 0 || N / 2 ^ b == -1
set_option maxHeartbeats 1000000 in
theorem fits_int (k : Int) (b : Nat) (hk : k = 0 ∧ b = 7 ∨ k = 1 ∧ b = 15 ∨ k = 2 ∧ b = 31 ∨ k = 3 ∧ b = 63) (N : Int) (w : World) :
    Calls Try.prog 20 #[.int .i64 k, .iface 3 (.int .i64 N)] w fun e w' => e = .returned (.bool (inBits b N)) ∧ Drawn0 w w' := by
  obtain ⟨v, hv⟩ : ∃ v, inBits b N = v := ⟨_, rfl⟩
  have hV := Aside0.mk hv
  rw [hv]
  clear hv
  have t1 := ta_3_3
  rcases hk with ⟨rfl, rfl⟩ | ⟨rfl, rfl⟩ | ⟨rfl, rfl⟩ | ⟨rfl, rfl⟩
  all_goals
    go_enter Try.func20, Try.ntmps20
    go_wp2
  all_goals
    go_ret
    refine ⟨value_ret ?_, by repeat (first | exact Drawn0.refl _ | apply Drawn0.step)⟩
    rw [← hV.out]
    simp [inBits, *]
theorem fits_str (k : Int) (S : ByteArray) (w : World) :
    Calls Try.prog 20 #[.int .i64 k, .iface 9 (.string S)] w fun e w' => e = .returned (.bool (decide ((S.size : Int) ≤ 12))) ∧ Drawn0 w w' := by
  have t1 := ta_9_3
  have t2 := ta_9_9
  go_enter Try.func20, Try.ntmps20
  go_wp2
  go_ret
  exact ⟨rfl, by repeat (first | exact Drawn0.refl _ | apply Drawn0.step)⟩
theorem fits_ref (k R : Int) (w : World) :
    Calls Try.prog 20 #[.int .i64 k, .iface 45 (.int .i64 R)] w fun e w' => e = .returned (.bool (decide (-1 ≤ R) && decide (R ≤ 1073741824))) ∧ Drawn0 w w' := by
  obtain ⟨v, hv⟩ : ∃ v, (decide (-1 ≤ R) && decide (R ≤ 1073741824)) = v := ⟨_, rfl⟩
  have hV := Aside0.mk hv
  rw [hv]
  clear hv
  have t1 := ta_45_3
  have t2 := ta_45_9
  have t3 := ta_45_45
  go_enter Try.func20, Try.ntmps20
  go_wp2
  all_goals
    go_ret
    refine ⟨value_ret ?_, by repeat (first | exact Drawn0.refl _ | apply Drawn0.step)⟩
    rw [← hV.out]
    first | (simp [*]; done) | (have h1 : ¬ -1 ≤ R := by omega
                                simp [h1])
theorem fits_nil (k : Int) (w : World) :
    Calls Try.prog 20 #[.int .i64 k, .nilIface] w fun e w' => e = .returned (.bool false) ∧ Drawn0 w w' := by
  have t1 := ta_n_3
  have t2 := ta_n_9
  have t3 := ta_n_45
  go_enter Try.func20, Try.ntmps20
  go_wp2
  go_ret
  exact ⟨rfl, by repeat (first | exact Drawn0.refl _ | apply Drawn0.step)⟩
/-- Fits, on the parts -/
def bitsOf (k : Int) : Nat := if k = 0 then 7 else if k = 1 then 15 else if k = 2 then 31 else 63
def fitsV (k N : Int) (S : ByteArray) (R : Int) : Bool :=
  if (0 ≤ k ∧ k ≤ 3) ∧ S.toList = [] ∧ R = 0 then inBits (bitsOf k) N
  else if k = 4 ∧ N = 0 ∧ R = 0 then decide ((S.size : Int) ≤ 12)
  else if k = 5 ∧ N = 0 ∧ S.toList = [] then decide (-1 ≤ R) && decide (R ≤ 1073741824)
  else false
theorem fits_any (k N : Int) (S : ByteArray) (R : Int) (w : World) :
    Calls Try.prog 20 #[.int .i64 k, ofV k N S R] w fun e w' => e = .returned (.bool (fitsV k N S R)) ∧ Drawn0 w w' := by
  unfold ofV fitsV
  by_cases c1 : (0 ≤ k ∧ k ≤ 3) ∧ S.toList = [] ∧ R = 0
  · rw [if_pos c1, if_pos c1]
    refine fits_int k (bitsOf k) ?_ N w
    unfold bitsOf
    have : k = 0 ∨ k = 1 ∨ k = 2 ∨ k = 3 := by omega
    rcases this with rfl | rfl | rfl | rfl <;> simp
  rw [if_neg c1, if_neg c1]
  by_cases c2 : k = 4 ∧ N = 0 ∧ R = 0
  · rw [if_pos c2, if_pos c2]; exact fits_str k S w
  rw [if_neg c2, if_neg c2]
  by_cases c3 : k = 5 ∧ N = 0 ∧ S.toList = []
  · rw [if_pos c3, if_pos c3]; exact fits_ref k R w
  rw [if_neg c3, if_neg c3]
  exact fits_nil k w

/-! ### vari_Put: function 21 -/
def vari_Put.l0 : Nat → Int → List Int → Option (List Int)
  | 0, _, _ => none
  | k + 1, x0, x3 => if x0 ≥ 128 then (if x3.length < 140737488355328 then (vari_Put.l0 k (x0 / 128) (x3 ++ [Go.bits .or .u8 ((x0) % 256) 128])) else (none)) else (if x3.length < 140737488355328 then (some (x3 ++ [(x0) % 256])) else (none))
def vari_Put.f (k : Nat) (a0 : Int) : Option (List Int) := vari_Put.l0 k a0 ([] : List Int)
theorem vari_Put.mono_l : ∀ k, (∀ y0 y1, LeO (vari_Put.l0 k y0 y1) (vari_Put.l0 (k + 1) y0 y1))
  | 0 => fun _ _ r h => by simp [vari_Put.l0] at h
  | k + 1 => by
    have ih0 := vari_Put.mono_l k
    · intro y0 y1
      unfold vari_Put.l0
      repeat' first
      | (with_reducible exact ih0 _ _)
      | (with_reducible exact LeO.refl _)
      | (with_reducible exact LeO.none _)
      | (with_reducible refine LeO.ite ?_ ?_)
      | (with_reducible refine LeO.bind ?_ (fun _ => ?_))
      | exact ih0 _ _
      | exact LeO.none _
      | refine LeO.ite ?_ ?_
      | refine LeO.bind ?_ (fun _ => ?_)
theorem vari_Put.mono : ∀ a0 k, LeO (vari_Put.f k a0) (vari_Put.f (k + 1) a0) := by
  intro a0 k
  have ih0 := vari_Put.mono_l k
  unfold vari_Put.f
  repeat' first
      | (with_reducible exact ih0 _ _)
      | (with_reducible exact LeO.refl _)
      | (with_reducible exact LeO.none _)
      | (with_reducible refine LeO.ite ?_ ?_)
      | (with_reducible refine LeO.bind ?_ (fun _ => ?_))
      | exact ih0 _ _
      | exact LeO.none _
      | refine LeO.ite ?_ ?_
      | refine LeO.bind ?_ (fun _ => ?_)
set_option maxHeartbeats 8000000 in
set_option maxRecDepth 100000 in
theorem vari_Put.calls (k : Nat) (a0 : Int) (r : List Int) (w : World) (h : vari_Put.f k a0 = some r) :
    Calls Try.prog 21 #[.int .u64 a0] w fun e w' => ∃ v0_ : Value, e = .returned (v0_) ∧ Kd.R (Kd.int .u8) 5 w' w.heap.size (fun _ => True) v0_ r ∧ Below w.heap.size w w' := by
  have HB := Aside0.mk (Below.refl w.heap.size w)
  have H : (vari_Put.l0 k a0 ([] : List Int)) = some r := h
  clear h
  have H' := Aside0.mk H
  clear H
  go_enter Try.func21, Try.ntmps21
  go_wp2
  go_loopg [0, 3] k (fun kq v0 v3 w' => ∃ (x0_1 : Int) (x3_1 : List Int), v0 = .int .u64 x0_1 ∧ Aside0 (vari_Put.l0 kq x0_1 x3_1 = some r) ∧ Aside0 (kq ≤ k) ∧ Aside0 (Kd.R (Kd.int .u8) 5 w' w.heap.size (fun _ => True) v3 x3_1) ∧ Aside0 (Below w.heap.size w w'))
  case atStart => exact ⟨(a0), (([] : List Int)), (by first | rfl | (simp; done) | (simp [*]; done)), H', ⟨Nat.le_refl _⟩, ⟨by first | exact Kd.R_nil _ _ _ _ _ | exact Kd.N_nil _ _ _ _ _ | exact Kd.V_nil _ _ _ _ _ | exact Kd.Q_nil _ _ _ _ _ | exact Kd.S_nil _ _ _ _ _⟩, ⟨by repeat (first | (with_reducible first | exact HB.out | apply below_alloc | apply pw_below_drewN | apply below_drew1) | exact HB.out)⟩⟩
  case round =>
    clear H'
    obtain ⟨x0_1, x3_1, rfl, HA, HK1, HO_3, HB⟩ := hrel
    cases gk with
    | zero => exact absurd HA.out (by simp [vari_Put.l0])
    | succ k1 =>
      have H := HA.out
      clear HA
      simp only [vari_Put.l0] at H
      by_cases c2 : x0_1 ≥ 128
      · rw [if_pos c2] at H
        have c2b0 : decide (128 ≤ x0_1) = true := decide_eq_true c2
        clear c2
        by_cases c3 : x3_1.length < 140737488355328
        · rw [if_pos c3] at H
          have LMc3 := Aside0.mk c3
          clear c3
          obtain ⟨y101, hy101⟩ : ∃ y_ : List Int, y_ = (x3_1 ++ [Go.bits .or .u8 ((x0_1) % 256) 128]) := ⟨_, rfl⟩
          replace H : (vari_Put.l0 k1 (x0_1 / 128) y101) = some r := by first | (rw [hy101]; with_reducible exact H) | (have H2_ := (Option.bind_some _ _).symm.trans H; rw [hy101]; with_reducible exact H2_) | (have H2_ := (Option.bind_some _ _).symm.trans H; with_reducible exact H2_) | with_reducible exact H | (rw [hy101]; exact H) | exact H
          have Ny101 := Aside0.mk hy101
          clear hy101
          have H' := Aside0.mk H
          clear H
          go_wp2_with (first | ((with_reducible refine gate_builtin (b := .append) (xs := #[.tmp 8, .tmp 12]) rfl ?_); at_builtin; refine Kd.R_append (Kd.int .u8) (w0 := w) w.heap.size rfl (.tmp 8) (.tmp 12) 26 5 (.int .u8 0) 1 rfl Try.underlying26 info5 rfl (by decide) (by omega) u3 x3_1 (Go.bits .or .u8 ((x0_1) % 256) 128) [.int .u8 (Go.bits .or .u8 ((x0_1) % 256) 128)] (fun _ => True) (fun _ => False) rfl rfl ?aP (fun _ hk => hk.elim) ?aF ?aO ?aB ?aS ?aL ?_; (case aP => exact rfl); (case aB => exact (by repeat (first | (with_reducible first | exact HB.out | apply below_alloc | apply pw_below_drewN | apply below_drew1) | exact HB.out))); (case aF => exact (fun _ _ => trivial)); (case aO => exact (by (with_reducible repeat (first | apply Kd.R_alloc | apply Kd.R_drewN | apply Kd.R_drew)); exact HO_3.out)); (case aS => exact (below_size (by repeat (first | (with_reducible first | exact HB.out | apply below_alloc | apply pw_below_drewN | apply below_drew1) | exact HB.out)))); (case aL => have := LMc3.out; omega); intro v102 w4 ho hb hg hat; rw [← Ny101.out] at ho; have n0_ := Aside0.mk (hb); have n1_ := Aside0.mk (ho); clear HB; clear HO_3; have HB := n0_; have HO103 := n1_; clear n0_ n1_; clear ho hb hg hat))
          go_roundg k1
          case measure => have := HK1.out; omega
          case rel => exact ⟨(x0_1 / 128), (y101), (by first | rfl | (simp; done) | (simp [*]; done)), H', ⟨by have := HK1.out; omega⟩, ⟨by (with_reducible repeat (first | apply Kd.R_alloc | apply Kd.R_drewN | apply Kd.R_drew)); exact HO103.out⟩, ⟨by repeat (first | (with_reducible first | exact HB.out | apply below_alloc | apply pw_below_drewN | apply below_drew1) | exact HB.out)⟩⟩
        · rw [if_neg c3] at H
          exact absurd H (by simp)
      · rw [if_neg c2] at H
        have c2b0 : decide (128 ≤ x0_1) = false := decide_eq_false c2
        clear c2
        by_cases c5 : x3_1.length < 140737488355328
        · rw [if_pos c5] at H
          have LMc5 := Aside0.mk c5
          clear c5
          obtain ⟨y104, hy104⟩ : ∃ y_ : List Int, y_ = (x3_1 ++ [(x0_1) % 256]) := ⟨_, rfl⟩
          replace H : (some y104) = some r := by first | (rw [hy104]; with_reducible exact H) | (have H2_ := (Option.bind_some _ _).symm.trans H; rw [hy104]; with_reducible exact H2_) | (have H2_ := (Option.bind_some _ _).symm.trans H; with_reducible exact H2_) | with_reducible exact H | (rw [hy104]; exact H) | exact H
          have Ny104 := Aside0.mk hy104
          clear hy104
          obtain rfl := Option.some.inj H
          go_wp2_with (first | ((with_reducible refine gate_builtin (b := .append) (xs := #[.tmp 14, .tmp 17]) rfl ?_); at_builtin; refine Kd.R_append (Kd.int .u8) (w0 := w) w.heap.size rfl (.tmp 14) (.tmp 17) 26 5 (.int .u8 0) 1 rfl Try.underlying26 info5 rfl (by decide) (by omega) u3 x3_1 ((x0_1) % 256) [.int .u8 ((x0_1) % 256)] (fun _ => True) (fun _ => False) rfl rfl ?aP (fun _ hk => hk.elim) ?aF ?aO ?aB ?aS ?aL ?_; (case aP => exact rfl); (case aB => exact (by repeat (first | (with_reducible first | exact HB.out | apply below_alloc | apply pw_below_drewN | apply below_drew1) | exact HB.out))); (case aF => exact (fun _ _ => trivial)); (case aO => exact (by (with_reducible repeat (first | apply Kd.R_alloc | apply Kd.R_drewN | apply Kd.R_drew)); exact HO_3.out)); (case aS => exact (below_size (by repeat (first | (with_reducible first | exact HB.out | apply below_alloc | apply pw_below_drewN | apply below_drew1) | exact HB.out)))); (case aL => have := LMc5.out; omega); intro v105 w6 ho hb hg hat; rw [← Ny104.out] at ho; have n0_ := Aside0.mk (hb); have n1_ := Aside0.mk (ho); clear HB; clear HO_3; have HB := n0_; have HO106 := n1_; clear n0_ n1_; clear ho hb hg hat))
          go_ret
          exact ⟨_, by first | rfl | (simp [errW_none, errW_some] <;> rfl) | (simp [*, errW_none, errW_some] <;> rfl), by (with_reducible repeat (first | apply Kd.R_alloc | apply Kd.R_drewN | apply Kd.R_drew)); exact HO106.out, by repeat (first | (with_reducible first | exact HB.out | apply below_alloc | apply pw_below_drewN | apply below_drew1) | exact HB.out)⟩
        · rw [if_neg c5] at H
          exact absurd H (by simp)

/-! ### vari_Zig: function 22 -/
def vari_Zig.f (a0 : Int) : Option (Int) := some (Go.bits .xor .u64 (IntKind.u64.wrap ((IntKind.u64.wrap (a0)) * 2)) (IntKind.u64.wrap (a0 / 9223372036854775808)))
set_option maxHeartbeats 8000000 in
set_option maxRecDepth 100000 in
theorem vari_Zig.calls (a0 : Int) (r : Int) (w : World) (h : vari_Zig.f a0 = some r) :
    Calls Try.prog 22 #[.int .i64 a0] w fun e w' => e = .returned (.int .u64 r) ∧ Drawn0 w w' := by
  have H : (some (Go.bits .xor .u64 (IntKind.u64.wrap ((IntKind.u64.wrap (a0)) * 2)) (IntKind.u64.wrap (a0 / 9223372036854775808)))) = some r := h
  clear h
  obtain rfl := Option.some.inj H
  go_enter Try.func22, Try.ntmps22
  go_wp2
  go_ret
  exact ⟨by first | rfl | (simp; done) | (simp [*]; done), by repeat (first | exact Drawn0.refl _ | apply Drawn0.step)⟩

end Go.Proofs.Ytepgcejgjfeolaa.PTl
