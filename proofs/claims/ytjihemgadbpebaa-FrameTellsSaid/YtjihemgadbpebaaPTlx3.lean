-- Written by wip/tools/myprint.py, a program of the prover's own, over the kit's print; the contracts named 'HAND' there are typed by hand.
import Derived.Test.YtjihemgadbpebaaPTlx0
import Derived.Test.YtjihemgadbpebaaPTlx2
namespace Go.Proofs.Ytjihemgadbpebaa.PTl
open Go.RowKit Go.Proofs.YtjihemgadbpebaaW.PrintWords Go.Proofs.YtjihemgadbpebaaW.PrintLast Go.Proofs.YtjihemgadbpebaaW.PrintMore
attribute [local go_sem] max2_int min2_int max_two min_two max_three min_three max_four min_four   -- for this text's walks alone
set_option linter.unusedVariables false
set_option linter.unusedSimpArgs false

/-! ### crc_Seal: function 22 -/
def sealOf (n : Int) : List Int := [n % 256, n / 256 % 256, n / 65536 % 256, n / 16777216 % 256]
def crc_Seal.f (l0 : List Int) : Option (List Int) := (crc_Sum.f l0).bind fun n => if l0.length + 4 < 140737488355328 then some (l0 ++ sealOf n) else none
theorem seal_info : (Try.prog.info? 5).map (fun i => (i.zero, i.size, i.bytes)) = some (some (.int .u8 0), 1, 1) := by kernel_rfl
theorem seal_make (m : Nat) (hm : m + 4 < 140737488355328) :
    ∀ W : World, (Instr.makeSlice 22 (.int .i64 (m : Int)) (.int .i64 ((m : Int) + 4))).run Try.prog W = .ok (.slice (some ⟨W.heap.size, 0, none⟩) m (m + 4)) (W.alloc (.cells (madeCells #[.int .u8 0] (m + 4)) 5)) := by
  intro W
  obtain ⟨i0, hi, hz0, hz1, hz2⟩ := info_parts seal_info
  have h := run_make (P := Try.prog) W 22 5 i0 (.int .u8 0) Try.underlying22 hi hz0 .i64 .i64 (m : Int) ((m : Int) + 4) (by omega) (by omega) (by rw [hz2]; omega) (by omega)
  rw [h, hz1]
  have e : ((m : Int) + 4).toNat = m + 4 := by omega
  simp only [Int.toNat_natCast, e, Nat.mul_one]
  rfl
theorem seal_own (W : World) (base m : Nat) (hb : base ≤ W.heap.size) (hm : m + 4 < 140737488355328) :
    (Kd.int .u8).R 5 (W.alloc (.cells (madeCells #[.int .u8 0] (m + 4)) 5)) base (fun _ => True) (.slice (some ⟨W.heap.size, 0, none⟩) m (m + 4)) (List.replicate m 0) := by
  refine Kd.R_of_own ?_ (fun _ _ => trivial)
  refine ⟨by simp [encs], .inr ⟨W.heap.size, m + 4, madeCells #[.int .u8 0] (m + 4), by simp, hb, heap_alloc_new _ _, by simp, by simp only [maxLen]; omega, by simp [size_madeCells], ?_⟩⟩
  apply List.ext_getElem
  · simp [size_madeCells, encs]
  · intro i h1 h2
    simp [madeCells, encs, Nat.mod_one]
theorem sealOf_take (n : Int) (k : Nat) (h : k < 4) : (sealOf n).take (k + 1) = (sealOf n).take k ++ [n / 2 ^ (8 * k) % 256] := by
  have : k = 0 ∨ k = 1 ∨ k = 2 ∨ k = 3 := by omega
  rcases this with rfl | rfl | rfl | rfl <;> simp [sealOf]
set_option maxHeartbeats 8000000 in
set_option maxRecDepth 100000 in
theorem crc_Seal.calls (A0 : Option Addr) (c0 : Nat) (l0 : List Int) (r : List Int) (w : World) (hr0 : Kd.C (Kd.int .u8) w A0 l0.length l0) (hc0 : l0.length ≤ c0) (h : crc_Seal.f l0 = some r) :
    Calls Try.prog 22 #[.slice A0 l0.length c0] w fun e w' => ∃ v0_ : Value, e = .returned (v0_) ∧ Kd.R (Kd.int .u8) 5 w' w.heap.size (fun _ => True) v0_ r ∧ Below w.heap.size w w' := by
  have HR0 := Aside0.mk hr0
  have HC0 := Aside0.mk hc0
  clear hr0 hc0
  obtain ⟨n, A2, h⟩ := Option.bind_eq_some_iff.mp h
  by_cases hl : l0.length + 4 < 140737488355328
  · rw [if_pos hl] at h
    obtain rfl := Option.some.inj h
    clear h
    have A2' := hide A2
    clear A2
    have hmk := seal_make l0.length hl
    go_enter Try.func22, Try.ntmps22
    go_wp2_with (first
      | (go_at_call 29; with_reducible refine (crc_Sum.calls _ _ l0 n _ HR0.out HC0.out A2'.out).mono ?_; rintro e w1 ⟨rfl, HB⟩)
      | ((with_reducible refine gate_builtin (b := .copy) (xs := #[.tmp 14, .tmp 15]) rfl ?_); refine Kd.R_copy (d := 0) (w0 := w) w.heap.size rfl (.tmp 14) (.tmp 15) 22 22 5 rfl Try.underlying22 (by kernel_rfl) (.slice (some ⟨w1.heap.size, 0, none⟩) l0.length (l0.length + 4)) (List.replicate l0.length 0) l0 A0 l0.length c0 (fun _ => True) rfl rfl (seal_own w1 _ _ (Below.size HB) hl) (Kd.C_alloc (Kd.C_below HR0.out HB) _) (below_alloc HB _) (by simp; exact Nat.le_succ_of_le (Below.size HB)) ?_; intro w2 HO HB2 hg))
    have HO2 := hide HO
    clear HO hg hmk A2' HB HR0 HC0 h
    go_loopw [4, 17] (fun v4 v17 wr => ∃ k : Nat, k ≤ 4 ∧ v17 = .int .i64 k ∧ Hid ((Kd.int .u8).R 5 wr w.heap.size (fun _ => True) v4 (l0 ++ (sealOf n).take k)) ∧ Below w.heap.size w wr) (fun _ v _ => 4 - (intOf v).toNat)
    case atStart => exact ⟨0, by omega, rfl, hide (by have := HO2.out; simp only [List.length_replicate, Nat.min_self, List.take_length] at this; rw [List.take_zero]; rw [List.drop_of_length_le (by simp)] at this; exact this), HB2⟩
    case round =>
      obtain ⟨k, hk, rfl, HR, HB⟩ := hrel
      clear HO2 HB2
      by_cases hlt : k < 4
      · have hb : decide ((k : Int) < 4) = true := decide_eq_true (by omega)
        have HT := sealOf_take n k hlt
        have HT' := hide HT
        clear HT
        go_wp2_with (first | ((with_reducible refine gate_builtin (b := .append) (xs := #[.tmp 20, .tmp 26]) rfl ?_); at_builtin; refine Kd.R_append (Kd.int .u8) (w0 := w) w.heap.size rfl (.tmp 20) (.tmp 26) 22 5 (.int .u8 0) 1 rfl Try.underlying22 seal_info rfl (by decide) (by omega) u4 (l0 ++ (sealOf n).take k) (n / 2 ^ (8 * k) % 256) [.int .u8 (n / 2 ^ (8 * k) % 256)] (fun _ => True) (fun _ => False) rfl rfl rfl (fun _ hk => hk.elim) (fun _ _ => trivial) HR.out HB (Below.size HB) (by simp [sealOf]; omega) ?_; intro v1 w3 ho hb1 hg hat; have HR2 := hide ho; clear ho hg hat HB HR))
        go_roundw
        case rel => exact ⟨k + 1, by omega, by go_num, hide (by have := HR2.out; rw [HT'.out, ← List.append_assoc]; exact this), hb1⟩
        case measure => simp [intOf]; omega
      · go_wp2
        go_ret
        obtain rfl : k = 4 := by omega
        exact ⟨_, rfl, by have := HR.out; simpa [sealOf] using this, HB⟩
  · rw [if_neg hl] at h
    exact absurd h (by simp)

end Go.Proofs.Ytjihemgadbpebaa.PTl
